/- A region whose order is drawn: values that no order can change are taken first; what writes comes when it alone is ready. Behind the operations of ds nothing is kept: each of them waits for all that is taken.
   (After the kit's own theorem on orders under a predicate, with a list of last operations.) -/
import Derived.Test.YtjhinpmnpdgadaaDoorSLg
import Derived.OrdersHeld
namespace Go.Proofs.YtjhinpmnpdgadaaDoor.SL
set_option linter.unusedVariables false
set_option linter.unusedSimpArgs false
open Go

section
variable {P : Program} {ops : Array Oper} {Q : Exit → Act → World → Prop} {S : World → Prop} {ds : List Nat}

def waitsOn (ops : Array Oper) (i d : Nat) : Bool := match ops[d]? with
  | some o => o.after.any fun e => Region.binds .any e && e.on == i
  | none => false

/-- d waits for i, or for one that is not yet done and does. -/
def waitsVia (ops : Array Oper) (listed : Array Bool) (i : Nat) : Nat → Nat → Bool
  | 0, d => waitsOn ops i d
  | n + 1, d => waitsOn ops i d || (List.range ops.size).any fun j => waitsOn ops j d && (!listed.getD j true && waitsVia ops listed i n j)

def lastOK (ops : Array Oper) (listed : Array Bool) (ds : List Nat) (i : Nat) : Bool := ds.all fun d => listed.getD d true || waitsVia ops listed i 5 d

def wpU (P : Program) (ops : Array Oper) (Q : Exit → Act → World → Prop) (S : World → Prop) (ds : List Nat) : Nat → Array Bool → Act → World → Prop
  | 0, listed, a, w => Region.ready .any ops listed = [] ∧ Q .normal a w
  | fuel + 1, listed, a, w =>
    (Region.ready .any ops listed = [] → Q .normal a w) ∧
    ∀ i ∈ Region.ready .any ops listed, wpOp P ops Q i (fun a' w' => (i ∉ ds → S w → S w') ∧ wpU P ops Q S ds fuel (listed.setIfInBounds i true) a' w') a w

theorem wpAny_of_wpU : ∀ (fuel : Nat) (listed : Array Bool) (a : Act) (w : World), wpU P ops Q S ds fuel listed a w → wpAny P .any ops Q fuel listed a w
  | 0, _, _, _, h => h
  | fuel + 1, _, _, _, h => ⟨h.1, fun i hi => wpOp_mono (fun a' w' h' => wpAny_of_wpU fuel _ a' w' h'.2) (h.2 i hi)⟩

theorem not_ready_waits {listed : Array Bool} {i d : Nat} (hw : waitsOn ops i d = true) (hun : listed.getD i true = false) : d ∉ Region.ready .any ops listed := by
  intro hd
  obtain ⟨_, o, ho, hall⟩ := mem_ready.1 hd
  unfold waitsOn at hw
  rw [ho] at hw
  obtain ⟨e, he, h1⟩ := Array.any_eq_true'.1 hw
  simp only [Bool.and_eq_true, beq_iff_eq] at h1
  have := hall e he h1.1
  rw [h1.2] at this
  rcases Nat.lt_or_ge i listed.size with h' | h'
  · simp [h'] at hun this; rw [hun] at this; cases this
  · simp [Array.getElem?_eq_none h'] at this

theorem via_not_ready {listed : Array Bool} {i : Nat} (hun : listed.getD i true = false) : ∀ (n d : Nat), waitsVia ops listed i n d = true → d ∉ Region.ready .any ops listed
  | 0, d, h => not_ready_waits h hun
  | n + 1, d, h => by
    unfold waitsVia at h
    rcases Bool.or_eq_true .. ▸ h with h | h
    · exact not_ready_waits h hun
    · obtain ⟨j, _, hj⟩ := List.any_eq_true.1 h
      simp only [Bool.and_eq_true, Bool.not_eq_true'] at hj
      exact not_ready_waits hj.1 hj.2.1
theorem via_mono {listed : Array Bool} {i j0 : Nat} (hun : listed.getD i true = false) (hj0 : j0 ∈ Region.ready .any ops listed) : ∀ (n d : Nat), waitsVia ops listed i n d = true → waitsVia ops (listed.setIfInBounds j0 true) i n d = true
  | 0, d, h => h
  | n + 1, d, h => by
    unfold waitsVia at h ⊢
    rcases Bool.or_eq_true .. ▸ h with h | h
    · rw [h]; rfl
    · obtain ⟨j, hr, hj⟩ := List.any_eq_true.1 h
      simp only [Bool.and_eq_true, Bool.not_eq_true'] at hj
      rw [Bool.or_eq_true]
      refine .inr (List.any_eq_true.2 ⟨j, hr, ?_⟩)
      simp only [Bool.and_eq_true, Bool.not_eq_true']
      refine ⟨hj.1, ?_, via_mono hun hj0 n j hj.2.2⟩
      have hne : j0 ≠ j := fun e => via_not_ready hun n j hj.2.2 (e ▸ hj0)
      rw [getD_set_ne true hne]
      exact hj.2.1

/-- What yields in every world (any = true), or in every world that meets S, is taken first. -/
theorem wpU_first {i : Nat} {oi : Oper} {v : Value} (any : Bool) (hi : ops[i]? = some oi) (hsel : ∀ (j : Nat) (o : Oper) cs b, ops[j]? = some o → o.op ≠ .select cs b)
    (hQ : ∀ c a w, Q (.panic c) (a.put oi.dst v) w → Q (.panic c) a w) :
    ∀ (fuel : Nat) (listed : Array Bool) (a : Act) (w : World),
      (∀ j oj, ops[j]? = some oj → j ≠ i → listed.getD j true = false → (∀ e ∈ oj.after, Region.binds .any e = true → e.on ≠ i) → oi.apart ops oj = true) →
      (any = false → ∀ d ∈ ds, listed.getD d true = false → waitsVia ops listed i 5 d = true) →
      i ∈ Region.ready .any ops listed → YieldsIf P ops (fun w => any = true ∨ S w) oi v a → (any = false → S w) →
      wpU P ops Q S ds fuel (listed.setIfInBounds i true) (a.put oi.dst v) w → wpU P ops Q S ds (fuel + 1) listed a w := by
  intro fuel
  have hS0 : ∀ w, (any = false → S w) → any = true ∨ S w := fun w h => by cases hb : any with | true => exact .inl rfl | false => exact .inr (h hb)
  induction fuel with
  | zero =>
    intro listed a w _ _ hr hy hS H
    refine ⟨fun h => (by rw [h] at hr; cases hr), fun j hj => ?_⟩
    by_cases hji : j = i
    · subst hji; exact hy.wpOp hi (hS0 w hS) ⟨fun _ h => h, H⟩
    · have := ready_mono hj hji
      rw [H.1] at this
      cases this
  | succ fuel ih =>
    intro listed a w hfree hd hr hy hS H
    refine ⟨fun h => (by rw [h] at hr; cases hr), fun j hj => ?_⟩
    by_cases hji : j = i
    · subst hji; exact hy.wpOp hi (hS0 w hS) ⟨fun _ h => h, H⟩
    · have h1 := H.2 j (ready_mono hj hji)
      obtain ⟨hjun, oj, hoj, hall⟩ := mem_ready.1 hj
      have hiun := (mem_ready.1 hr).1
      have hnot : ∀ e ∈ oj.after, Region.binds .any e = true → e.on ≠ i := fun e he hb heq => by
        have h1 := hall e he hb
        rw [heq] at h1
        rcases Nat.lt_or_ge i listed.size with h' | h'
        · simp [h'] at hiun h1; rw [hiun] at h1; cases h1
        · simp [Array.getElem?_eq_none h'] at h1
      have h2 := wpOp_putIf hoj (hfree j oj hoj hji hjun hnot) (fun cs b => hsel i oi cs b hi) (fun cs b => hsel j oj cs b hoj) hQ hy h1
      have hfree' : ∀ k ok, ops[k]? = some ok → k ≠ i → (listed.setIfInBounds j true).getD k true = false →
          (∀ e ∈ ok.after, Region.binds .any e = true → e.on ≠ i) → oi.apart ops ok = true := fun k ok hk hki hun hno => by
        refine hfree k ok hk hki ?_ hno
        by_cases hjk : j = k
        · subst hjk; exact hjun
        · rw [getD_set_ne true hjk] at hun; exact hun
      have hd' : any = false → ∀ d ∈ ds, (listed.setIfInBounds j true).getD d true = false → waitsVia ops (listed.setIfInBounds j true) i 5 d = true := fun ha d hm hun => by
        refine via_mono hiun hj 5 d (hd ha d hm ?_)
        by_cases hjk : j = d
        · subst hjk; exact hjun
        · rw [getD_set_ne true hjk] at hun; exact hun
      refine wpOp_mono (fun a' w' h3 => ⟨h3.2.1, ih (listed.setIfInBounds j true) a' w' hfree' hd' (ready_mono hr (Ne.symm hji)) h3.1 (fun ha => h3.2.1 (fun hm => via_not_ready hiun 5 j (hd ha j hm hjun) hj) (hS ha)) ?_⟩) h2
      rw [Array.setIfInBounds_comm _ _ hji]
      exact h3.2.2
end

/-- Which are done: the bits of a number. -/
def bm (n m : Nat) : Array Bool := ((List.range n).map fun i => m.testBit i).toArray

/-! ### In slots and facts -/
def RunU (X : Cx) (K : Post) (ops : Array Oper) (Θ : List Fact) (ds : List Nat) (fuel : Nat) (l : Array Bool) (t : Env) (D : List Fact) : Prop :=
  ∀ ρ a w, EnvOK X.N ρ t a → SAT ρ.w0 ρ.W D w → wpU X.P ops (den X ρ K) (fun w => ∀ f ∈ Θ, ∃ fp, f.P w fp) ds fuel l a w

/-- Facts by their numbers. -/
def atAll (D : List Fact) : List Nat → Option (List Fact)
  | [] => some []
  | k :: ks => match D[k]?, atAll D ks with
    | some f, some fs => some (f :: fs)
    | _, _ => none

theorem atAll_sat {w0 : World} {W : FP} {D : List Fact} {w : World} (h : SAT w0 W D w) : ∀ {ks : List Nat} {Θ : List Fact}, atAll D ks = some Θ → ∀ f ∈ Θ, ∃ fp, f.P w fp
  | [], Θ, hk, f, hf => by cases hk; cases hf
  | k :: ks, Θ, hk, f, hf => by
    unfold atAll at hk
    split at hk
    · rename_i g fs hg hfs
      cases hk
      rcases List.mem_cons.1 hf with rfl | hf
      · exact h.get k hg
      · exact atAll_sat h hfs f hf
    · cases hk

section
variable {X : Cx} {K : Post} {ops : Array Oper} {Θ : List Fact} {ds : List Nat} {U : Tab} (hU : U.OK X.P) {t : Env} {D : List Fact} {fuel : Nat} {l : Array Bool}
include hU

theorem RunC.regionU {id : Nat} (n : Nat) (Θ : List Fact) (ks : List Nat) (ds : List Nat) (l : Array Bool) (hn : Nat.beq ops.size n = true) (hl : Array.replicate n false = l) (hks : atAll D ks = some Θ) (h : RunU X K ops Θ ds n l t D) (hr : X.r = none := by rfl) : RunC X K (.region id ops true) t D := by
  intro ρ a w ha hw
  obtain rfl := Nat.eq_of_beq_eq_true hn
  subst hl
  have hF : X.F = Fence.wide := by unfold Cx.F; rw [hr]; rfl
  rw [hF]
  exact wpIn_wide.2 (wp_region_any hU.mixed (wpAny_of_wpU _ _ _ _ (h ρ a w.drew ha hw.drew)))

def takeOK (ops : Array Oper) (l l' : Array Bool) (i : Nat) : Bool := Region.noSelect ops && Region.free .any ops l i && (Region.ready .any ops l).contains i && (l.setIfInBounds i true == l')

/-- The value of an operation that touches no memory, the guard heeded. -/
def silu (U : Tab) (nw : Bool) (ops : Array Oper) (i : Nat) (t : Env) : Option (Nat × Value × Prop) :=
  match ops[i]? with
  | none => none
  | some o => match gd ops o t, o.dst with
    | some true, some d => match (match nw with | true => silw U o.op t | false => sil1 U o.op t) with
      | some (v, C) => some (d, v, C)
      | none => none
    | some false, some d => some (d, undef, True)
    | _, _ => none

theorem RunU.sil (nw : Bool) (i : Nat) (l' : Array Bool) (d : Nat) (v : Value) (C : Prop) (h : silu U nw ops i t = some (d, v, C)) (hC : C) (hc : takeOK ops l l' i = true) (hd : Nat.ble (d + 1) X.N = true)
    (hQ : ∀ c t D, K (.panic c) t D → False) (k : RunU X K ops Θ ds fuel l' (put t d v) D) : RunU X K ops Θ ds (fuel + 1) l t D := by
  simp only [takeOK, Bool.and_eq_true, beq_iff_eq] at hc
  obtain ⟨⟨⟨h1, h2⟩, h3⟩, h4⟩ := hc
  subst h4
  intro ρ a w ha hw
  unfold silu at h
  split at h
  · cases h
  · rename_i o ho
    have key : ∀ (v : Value), o.dst = some d → YieldsIf X.P ops (fun w => true = true ∨ ∀ f ∈ Θ, ∃ fp, f.P w fp) o v a → RunU X K ops Θ ds fuel (l.setIfInBounds i true) (put t d v) D → wpU X.P ops (den X ρ K) (fun w => ∀ f ∈ Θ, ∃ fp, f.P w fp) ds (fuel + 1) l a w := by
      intro v hdst hy k
      refine wpU_first true ho (Region.noSelect_spec h1) (fun c a w hq => ?_) fuel l a w (Region.free_spec ho h2) (fun h => by cases h) (by simpa using h3) hy (fun h => by cases h) ?_
      · obtain ⟨_, _, _, _, _, _, hk⟩ := hq; exact (hQ _ _ _ hk).elim
      · rw [hdst]; exact k ρ _ w (ha.put (Nat.le_of_ble_eq_true hd) v) hw
    split at h
    · rename_i d' hg hdst
      cases hs : (match nw with | true => silw U o.op t | false => sil1 U o.op t) with
      | none => rw [hs] at h; cases h
      | some p =>
        obtain ⟨v', C'⟩ := p
        rw [hs] at h
        simp only [Option.some.injEq, Prod.mk.injEq] at h
        obtain ⟨rfl, rfl, rfl⟩ := h
        have hs1 : ∃ C', C' ∧ sil1 U o.op t = some (v', C') := by
          cases nw with
          | true => exact silw_sil1 hs hC
          | false => exact ⟨_, hC, hs⟩
        obtain ⟨C2, hC2, hs2⟩ := hs1
        exact key v' hdst (.inl ⟨gd_sound ha hg, fun w _ => sil1_sound hU ha w hs2 hC2⟩) k
    · rename_i d' hg hdst
      simp only [Option.some.injEq, Prod.mk.injEq] at h
      obtain ⟨rfl, rfl, rfl⟩ := h
      exact key undef hdst (.inr ⟨gd_sound ha hg, rfl⟩) k
    · cases h

/-- An operation that only reads what Θ tells. -/
def Reads (X : Cx) (Θ : List Fact) (dst : Option Tmp) (op : Op) (t : Env) (v : Value) : Prop :=
  ∀ o : Oper, o.dst = dst → o.op = op → ∀ ρ a w, EnvOK X.N ρ t a → (∀ f ∈ Θ, ∃ fp, f.P w fp) → (execOp a.eval o).run X.P w = .ok (.value v) w

omit hU in
theorem RunU.read (i : Nat) (l' : Array Bool) (d : Nat) (op : Op) (v : Value) (ks : List Nat) (h : opInfo ops i t = some (some d, op)) (hr : Reads X Θ (some d) op t v) (hks : atAll D ks = some Θ) (hc : takeOK ops l l' i = true) (hds : lastOK ops l ds i = true) (hd : Nat.ble (d + 1) X.N = true)
    (hQ : ∀ c t D, K (.panic c) t D → False) (k : RunU X K ops Θ ds fuel l' (put t d v) D) : RunU X K ops Θ ds (fuel + 1) l t D := by
  simp only [takeOK, Bool.and_eq_true, beq_iff_eq] at hc
  obtain ⟨⟨⟨h1, h2⟩, h3⟩, h4⟩ := hc
  subst h4
  obtain ⟨o, ho, hg, hdst, hop⟩ := opInfo_spec h
  intro ρ a w ha hw
  refine wpU_first false ho (Region.noSelect_spec h1) (fun c a w hq => ?_) fuel l a w (Region.free_spec ho h2) (fun _ d hm hun => ?_) (by simpa using h3) (.inl ⟨gd_sound ha hg, fun w hS => hr o hdst hop ρ a w ha (hS.resolve_left (by simp))⟩) (fun _ => atAll_sat hw hks) ?_
  · obtain ⟨_, _, _, _, _, _, hk⟩ := hq; exact (hQ _ _ _ hk).elim
  · have := List.all_eq_true.1 hds d hm
    rw [hun] at this
    simpa using this
  · rw [hdst]; exact k ρ _ w (ha.put (Nat.le_of_ble_eq_true hd) v) hw

def oneOK (ops : Array Oper) (l l' : Array Bool) (i : Nat) : Bool := (Region.ready .any ops l == [i]) && (l.setIfInBounds i true == l')

omit hU in
/-- The one operation that is ready, whatever it does. -/
theorem RunU.one (i : Nat) (l' : Array Bool) {dst : Option Tmp} {op : Op} (ks : List Nat) (h : opInfo ops i t = some (dst, op)) (hc : oneOK ops l l' i = true)
    (hs : Step X dst op t D (fun t' D' => (atAll D' ks = some Θ ∨ onList ds i = true) ∧ RunU X K ops Θ ds fuel l' t' D')) : RunU X K ops Θ ds (fuel + 1) l t D := by
  simp only [oneOK, Bool.and_eq_true, beq_iff_eq] at hc
  obtain ⟨h1, h2⟩ := hc
  subst h2
  obtain ⟨o, ho, hg, hdst, hop⟩ := opInfo_spec h
  intro ρ a w ha hw
  refine ⟨fun h0 => (by rw [h1] at h0; cases h0), fun j hj => ?_⟩
  rw [h1, List.mem_singleton] at hj
  subst hj
  unfold wpOp
  simp only [ho, gd_sound ha hg, if_true]
  refine .inl (hs o hdst hop ρ a w ha hw _ _ (fun t' D' a' w' h3 h4 h5 => ⟨fun hn _ => ?_, h5.2 ρ a' w' h3 h4⟩)).2
  rcases h5.1 with h6 | h6
  · exact atAll_sat h4 h6
  · exact absurd (by
      clear hs h5 hn
      revert h6
      generalize ds = L
      induction L with
      | nil => intro h; cases h
      | cons k L ih =>
        intro h
        unfold onList at h
        cases hb : Nat.beq k j with
        | true => rw [Nat.eq_of_beq_eq_true hb]; exact List.mem_cons_self
        | false => rw [hb] at h; exact List.mem_cons_of_mem _ (ih h)) hn

omit hU in
theorem RunU.done (h : (Region.ready .any ops l == []) = true) (k : K .normal t D) : RunU X K ops Θ ds fuel l t D := by
  intro ρ a w ha hw
  have h : Region.ready .any ops l = [] := by simpa using h
  cases fuel with
  | zero => exact ⟨h, ρ, t, D, .refl ρ, ha, hw, k⟩
  | succ n => exact ⟨fun _ => ⟨ρ, t, D, .refl ρ, ha, hw, k⟩, by rw [h]; simp⟩

omit hU in
theorem RunU.enveq (t' : Env) (h : t = t') (k : RunU X K ops Θ ds fuel l t' D) : RunU X K ops Θ ds fuel l t D := by subst h; exact k
omit hU in
theorem RunU.env (keep : List Nat) (t' : Env) (h : pick t keep = t') (k : RunU X K ops Θ ds fuel l t' D) : RunU X K ops Θ ds fuel l t D := by
  subst h
  exact fun ρ a w ha hw => k ρ a w (ha.sub (fun p hp => pick_mem hp)) hw
omit hU in
theorem RunU.turn (D' : List Fact) (hD : ∀ w0 W w, SAT w0 W D w → SAT w0 W D' w) (k : RunU X K ops Θ ds fuel l t D') : RunU X K ops Θ ds fuel l t D := fun ρ a w ha hw => k ρ a w ha (hD _ _ w hw)
omit hU in
theorem RunU.know {p : Prop} (hp : ∀ w0 W w, SAT w0 W D w → p) (k : p → RunU X K ops Θ ds fuel l t D) : RunU X K ops Θ ds fuel l t D := fun ρ a w ha hw => k (hp _ _ w hw) ρ a w ha hw
end
end Go.Proofs.YtjhinpmnpdgadaaDoor.SL
