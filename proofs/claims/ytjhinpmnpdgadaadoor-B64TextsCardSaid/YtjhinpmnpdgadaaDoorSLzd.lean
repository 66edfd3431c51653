/- A region whose order is drawn, in a round of a loop over a function: only values, and what comes alone. -/
import Derived.Test.YtjhinpmnpdgadaaDoorSLzc
import Derived.OrdersIn
namespace Go.Proofs.YtjhinpmnpdgadaaDoor.SL
set_option linter.unusedVariables false
open Go
def noDefer (ops : Array Oper) : Bool := ops.all fun o => match o.op with | .defer _ => false | _ => true
def noCall (ops : Array Oper) (i : Nat) : Bool := match ops[i]? with | some o => (match o.op with | .call _ => false | _ => true) | none => false
section
variable {X : Cx} {K : Post} {ops : Array Oper} {U : Tab} (hU : U.OK X.P) {t : Env} {D : List Fact} {Θ : List Fact} {ds : List Nat} {fuel : Nat} {l : Array Bool}
theorem uponIn_of_upon {o : Oper} {a : Act} {next : Act → World → Prop} {Q : Exit → Act → World → Prop} {r : Result Next} (h : o.upon X.P a next Q r) : o.uponIn Fence.wide 0 X.P a next Q r := by
  cases r with
  | ok x w =>
    cases x <;> simp only [Oper.upon, Oper.uponIn] at h ⊢ <;> first
      | exact h
      | exact ⟨fun h => by simp [Fence.wide] at h, (callsIn_wide (n := 0 - 1)).2 h⟩
      | exact ⟨fun h => by simp [Fence.wide] at h, fun c cs _ => by obtain ⟨v, w', r, s⟩ := h c cs; exact ⟨v, w', r, stepsIn_wide.2 s⟩⟩
  | halt x w => cases x <;> simp only [Oper.upon, Oper.uponIn] at h ⊢ <;> exact h
theorem uponIn_X {o : Oper} {a : Act} {next next' : Act → World → Prop} {Q : Exit → Act → World → Prop} {r : Result Next} (hn : ∀ a w, next a w → next' a w) (h : o.uponIn Fence.wide 0 X.P a next Q r) : o.uponIn X.F 0 X.P a next' Q r := by
  cases r with
  | ok x w =>
    cases x <;> simp only [Oper.uponIn] at h ⊢
    case value => exact hn _ _ h
    case skip => exact hn _ _ h
    case defer => exact hn _ _ h
    case enter => exact ⟨h.1, CallsIn.mono (F := Fence.wide) h.2 fun e w'' he => by cases e <;> first | exact hn _ _ he | exact he⟩
    case row => exact ⟨h.1, RowsIn.mono (F := Fence.wide) h.2 fun _ _ he => hn _ _ he⟩
    case round => exact ⟨h.1, RoundIn.mono (F := Fence.wide) h.2 fun e w'' he => by cases e <;> first | exact hn _ _ he | exact he⟩
  | halt x w => cases x <;> simp only [Oper.uponIn] at h ⊢ <;> exact h
theorem wpAnyIn_X (hd : noDefer ops = true) {Q : Exit → Act → World → Prop} : ∀ (fuel : Nat) (listed : Array Bool) (a : Act) (w : World), wpAnyIn Fence.wide 0 X.P .any ops Q fuel listed a w → wpAnyIn X.F 0 X.P .any ops Q fuel listed a w
  | 0, _, _, _, h => h
  | fuel + 1, _, a, w, h => ⟨h.1, fun i hi => by
      have h2 := h.2 i hi
      unfold wpOpIn at h2 ⊢
      split
      · rename_i h0
        simp only [h0] at h2
        exact wpAnyIn_X hd fuel _ _ _ h2
      · rename_i o ho
        simp only [ho] at h2
        split
        · rename_i hw
          simp only [hw, if_true] at h2
          have hn : ∀ c, o.op ≠ .defer c := fun c hc => by
            have := Array.all_eq_true'.1 hd o (Array.mem_of_getElem? ho)
            simp [hc] at this
          refine ⟨fun f _ => trivial, ?_⟩
          rw [Oper.semAt_eq _ _ _ hn]
          exact uponIn_X (fun a w => wpAnyIn_X hd fuel _ a w) h2.2
        · rename_i hw
          simp only [hw] at h2
          exact ⟨fun f _ => trivial, wpAnyIn_X hd fuel _ _ _ h2.2⟩⟩
def RunV (X : Cx) (K : Post) (ops : Array Oper) (Θ : List Fact) (ds : List Nat) (fuel : Nat) (l : Array Bool) (t : Env) (D : List Fact) : Prop :=
  ∀ ρ a w, EnvOK X.N ρ t a → SAT ρ.w0 ρ.W D w → wpAnyIn Fence.wide 0 X.P .any ops (den X ρ K) fuel l a w
include hU
theorem RunC.regionV {id : Nat} (n : Nat) (Θ : List Fact) (ks : List Nat) (ds : List Nat) (l : Array Bool) (hn : Nat.beq ops.size n = true) (hl : Array.replicate n false = l) (hks : atAll D ks = some Θ) (h : RunV X K ops Θ ds n l t D) (hd : noDefer ops = true := by kernel_rfl) : RunC X K (.region id ops true) t D := by
  intro ρ a w ha hw
  obtain rfl := Nat.eq_of_beq_eq_true hn
  subst hl
  exact wpIn_region_any hU.mixed (wpAnyIn_X hd _ _ _ _ (h ρ a w.drew ha hw.drew))
theorem RunV.sil (nw : Bool) (i : Nat) (l' : Array Bool) (d : Nat) (v : Value) (C : Prop) (h : silu U nw ops i t = some (d, v, C)) (hC : C) (hc : takeOK ops l l' i = true) (hd : Nat.ble (d + 1) X.N = true)
    (hQ : ∀ c t D, K (.panic c) t D → False) (k : RunV X K ops Θ ds fuel l' (put t d v) D) (hcl : noCall ops i = true := by kernel_rfl) : RunV X K ops Θ ds (fuel + 1) l t D := by
  simp only [takeOK, Bool.and_eq_true, beq_iff_eq] at hc
  obtain ⟨⟨⟨h1, h2⟩, h3⟩, h4⟩ := hc
  subst h4
  intro ρ a w ha hw
  unfold silu at h
  split at h
  · cases h
  · rename_i o ho
    have hab : ∀ w, o.about X.P w a.eval = none := fun w => by
      unfold noCall at hcl
      rw [ho] at hcl
      unfold Oper.about
      cases hop : o.op <;> simp_all
    have key : ∀ (v : Value), o.dst = some d → Yields X.P ops o v a → RunV X K ops Θ ds fuel (l.setIfInBounds i true) (put t d v) D → wpAnyIn Fence.wide 0 X.P .any ops (den X ρ K) (fuel + 1) l a w := by
      intro v hdst hy k
      refine wpAnyIn_take rfl ho h1 h2 h3 (fun c a w hq => ?_) ⟨hy, hab⟩ ?_
      · obtain ⟨_, _, _, _, _, _, hk⟩ := hq; exact (hQ _ _ _ hk).elim
      · rw [hdst]; exact k ρ _ w (ha.put (Nat.le_of_ble_eq_true hd) v) hw
    split at h
    · rename_i d' hg hdst
      cases nw with
      | true =>
        simp only at h
        cases hs : silw U o.op t with
        | none => rw [hs] at h; cases h
        | some p =>
          obtain ⟨v', C'⟩ := p
          rw [hs] at h
          simp only [Option.some.injEq, Prod.mk.injEq] at h
          obtain ⟨rfl, rfl, rfl⟩ := h
          obtain ⟨C2, hC2, hs2⟩ := silw_sil1 hs hC
          exact key v' hdst (.inl ⟨gd_sound ha hg, fun w => sil1_sound hU ha w hs2 hC2⟩) k
      | false =>
        simp only at h
        cases hs : sil1 U o.op t with
        | none => rw [hs] at h; cases h
        | some p =>
          obtain ⟨v', C'⟩ := p
          rw [hs] at h
          simp only [Option.some.injEq, Prod.mk.injEq] at h
          obtain ⟨rfl, rfl, rfl⟩ := h
          exact key v' hdst (.inl ⟨gd_sound ha hg, fun w => sil1_sound hU ha w hs hC⟩) k
    · rename_i d' hg hdst
      simp only [Option.some.injEq, Prod.mk.injEq] at h
      obtain ⟨rfl, rfl, rfl⟩ := h
      exact key undef hdst (.inr ⟨gd_sound ha hg, rfl⟩) k
    · cases h
omit hU in
theorem RunV.one (i : Nat) (l' : Array Bool) {dst : Option Tmp} {op : Op} (ks : List Nat) (h : opInfo ops i t = some (dst, op)) (hc : oneOK ops l l' i = true)
    (hs : Step X dst op t D (fun t' D' => (atAll D' ks = some Θ ∨ onList ds i = true) ∧ RunV X K ops Θ ds fuel l' t' D')) : RunV X K ops Θ ds (fuel + 1) l t D := by
  simp only [oneOK, Bool.and_eq_true, beq_iff_eq] at hc
  obtain ⟨h1, h2⟩ := hc
  subst h2
  obtain ⟨o, ho, hg, hdst, hop⟩ := opInfo_spec h
  intro ρ a w ha hw
  refine wpAnyIn_all h1 (by simp) fun j hj => ?_
  rw [List.mem_singleton] at hj
  subst hj
  unfold wpOpIn
  simp only [ho, gd_sound ha hg, if_true]
  exact ⟨fun _ _ => trivial, uponIn_of_upon (hs o hdst hop ρ a w ha hw _ _ (fun t' D' a' w' h3 h4 h5 => h5.2 ρ a' w' h3 h4)).2⟩
omit hU in
theorem RunV.done (h : (Region.ready .any ops l == []) = true) (k : K .normal t D) : RunV X K ops Θ ds fuel l t D := by
  intro ρ a w ha hw
  have h : Region.ready .any ops l = [] := by simpa using h
  exact wpAnyIn_done h ⟨ρ, t, D, .refl ρ, ha, hw, k⟩ fuel
omit hU in
theorem RunV.enveq (t' : Env) (h : t = t') (k : RunV X K ops Θ ds fuel l t' D) : RunV X K ops Θ ds fuel l t D := by subst h; exact k
omit hU in
theorem RunV.env (keep : List Nat) (t' : Env) (h : pick t keep = t') (k : RunV X K ops Θ ds fuel l t' D) : RunV X K ops Θ ds fuel l t D := by
  subst h
  exact fun ρ a w ha hw => k ρ a w (ha.sub (fun p hp => pick_mem hp)) hw
omit hU in
theorem RunV.turn (D' : List Fact) (hD : ∀ w0 W w, SAT w0 W D w → SAT w0 W D' w) (k : RunV X K ops Θ ds fuel l t D') : RunV X K ops Θ ds fuel l t D := fun ρ a w ha hw => k ρ a w ha (hD _ _ w hw)
end
end Go.Proofs.YtjhinpmnpdgadaaDoor.SL
