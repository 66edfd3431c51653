import Derived.Test.YtaaplakahkgclaaSLw
import Derived.RangeFuncSeq
import Derived.ChangeKeysEq
import Derived.Laws.StructEq
import Derived.OrdersIn
/- Ranges over functions: the iterator's contract, a round's walk, the statement. -/
namespace Go.Proofs.Ytaaplakahkgclaa.SL
set_option linter.unusedVariables false
set_option linter.unusedSimpArgs false
open Go Go.RowKit

theorem sat_viewsR : ∀ {V : List Fact} {w : World} {O R : FP}, (∀ f ∈ V, f.own = false) → sat V w O R → sat V w O (fun b => R b ∧ b < w.heap.size)
  | [], _, _, _, _, _ => trivial
  | f :: V, w, O, R, hown, ⟨fp, hp, h⟩ => by
    have hf := hown f List.mem_cons_self
    rw [hf] at h
    refine ⟨fp, hp, ?_⟩
    rw [hf]
    exact ⟨fun b hb => ⟨h.1 b hb, f.bnd hp b hb⟩, sat_viewsR (fun g hg => hown g (List.mem_cons_of_mem _ hg)) h.2⟩

def viewsF (V : List Fact) : Fact where
  own := false
  P w fp := sat V w (fun _ => False) fp ∧ ∀ b, fp b → b < w.heap.size
  loc := fun h hl => ⟨sat_loc h.1 (fun b hb' => hl b (hb'.resolve_left (fun h => h))), fun b hb' => by
    have h := h.2 b hb'
    have e := hl b hb'
    rw [Array.getElem?_eq_getElem h] at e
    exact (Array.getElem?_eq_some_iff.1 e).1⟩
  bnd := fun h => h.2

theorem Lend.views {D V : List Fact} (hV : ∀ f ∈ V, f.own = false) (h : Lend D V) {L : List Fact} (hL : Lend D L) : Lend D (viewsF V :: L) := fun w O R hs =>
  ⟨fun b => (O b ∨ R b) ∧ b < w.heap.size, ⟨sat_viewsR hV (h w O R hs), fun _ hb => hb.2⟩, fun _ hb => hb.1, hL w O R hs⟩

def YieldS (P : Program) (l : Nat) (args : List Value) (D : List Fact) (Φ : Value → List Fact → Prop) : Prop :=
  ∀ w W, SAT w W D w → YieldAt Fence.wide 0 P l args.toArray w (fun e w' => ∃ r D', e = .returned r ∧ Φ r D' ∧ (∀ f ∈ D', f.own = true) ∧ SAT w W D' w')

section
variable {X : Cx} {K : Post} {ops : Array Oper} {t : Env} {D : List Fact} {i : Nat}

theorem RunR.yield {d : Option Nat} {c : Operand} {os_ : Array Operand} {ts : Array TypeId} (l : Nat) (vs : List Value) (ho : opInfo ops i t = some (d, .call { callee := .value c, args := os_, argTypes := ts })) (hc : ev t c = some (.func (.yield l) #[] #[])) (ha_ : os_.toList.mapM (ev t) = some vs)
    (hd : (d.map fun d => Nat.ble (d + 1) X.N).getD true = true) (C V E : List Fact) {Φ : Value → List Fact → Prop} (hY : YieldS X.P l vs (C ++ V) Φ) (ks : List Nat) (hD : pulls ks D = (C, E)) (hV : Lend E V)
    (k : ∀ r D', Φ r D' → RunR X K ops (i + 1) (putO t d r) (D' ++ E)) (hr : X.r = none := by rfl) : RunR X K ops i t D := by
  obtain ⟨o, hoi, hg, hdst, hop⟩ := opInfo_spec ho
  intro ρ a w ha hw
  rw [drop_cons hoi]
  unfold wpListIn
  rw [if_pos (gd_sound ha hg)]
  have hp := pulls_perm ks D
  rw [hD] at hp
  obtain ⟨O1, hpre, hpost⟩ := hw.call hp hV
  have hargs : os_.map a.eval = vs.toArray := by
    rw [← Array.toList_inj, Array.toList_map]
    exact eval_map ha ha_
  obtain ⟨fn, tmps, assign, body, hy, hround⟩ := hY w O1 hpre
  have hrun : (execOp a.eval o).run X.P w = .ok (.round l fn tmps assign body) w := by
    unfold execOp
    simp [hop, resolve, ha.ev hc, Deferred.ofValue, invoke, hargs, hy]
  refine ⟨about_any, ?_⟩
  rw [sem_of_run hrun (fun _ h => by cases h), Oper.uponIn_round]
  have hF : X.F = Fence.wide := by unfold Cx.F; rw [hr]; rfl
  refine ⟨fun h => by simp [Cx.F, Fence.wide] at h, ?_⟩
  have hround2 : RoundIn X.F (0 - 1) X.P l fn tmps assign body w (fun e w' => ∃ r D', e = .returned r ∧ Φ r D' ∧ (∀ f ∈ D', f.own = true) ∧ SAT w O1 D' w') := by rw [hF]; exact hround
  refine hround2.mono ?_
  rintro e w' ⟨r, D', rfl, hΦ, hown, hs⟩
  refine k r D' hΦ ρ _ _ ?_ (hpost D' w' hown hs)
  rw [hdst]
  exact ha.putO hd r
end
theorem Lend.tail {f : Fact} {E V : List Fact} (h : Lend E V) : Lend (f :: E) V := fun w O R hs => by
  have h1 := h w _ _ (sat_tail hs)
  exact h1

section
variable {X : Cx} {K : Post} {t : Env} {D : List Fact}

end
section
variable {X : Cx} {K : Post} {t : Env} {D : List Fact} {α β : Type} {l : Nat} {R : LoopState → Option Code → Loop} {p : α → Prop} {L : α → List Fact} {c : Code} {q : β → Prop} {M : β → List Fact}
end
end Go.Proofs.Ytaaplakahkgclaa.SL

/- A cut: what holds behind a piece of code, told once. Arrays of numbers compared. -/
namespace Go.Proofs.Ytaaplakahkgclaa.SL
set_option linter.unusedVariables false
open Go
section
variable {X : Cx} {K : Post} {t : Env} {D : List Fact} {ψ : Env → List Fact → Prop}
def kcut (ψ : Env → List Fact → Prop) (K : Post) : Post := fun e t D => match e with | .normal => ∃ t' D', (∀ p ∈ t', p ∈ t) ∧ (∀ w0 W w, SAT w0 W D w → SAT w0 W D' w) ∧ ψ t' D' | e => K e t D
theorem kcut_n (keep ks : List Nat) (t' : Env) (D' : List Fact) (ht : pick t keep = t') (hD : (pulls ks D).1 = D') (h : ψ t' D') : kcut ψ K .normal t D :=
  ⟨t', D', fun p hp => by subst ht; exact pick_mem hp, fun _ _ _ hs => hs.sel ks D' hD, h⟩
theorem RunC.cut {c d : Code} (ψ : Env → List Fact → Prop) (h1 : RunC X (kcut ψ K) c t D) (h2 : ∀ t D, ψ t D → RunC X K d t D) : RunC X K (.seq c d) t D := by
  refine RunC.seq fun ρ a w ha hw => wpIn_mono (h1 ρ a w ha hw) fun e a w hd => den_mono (Ext.refl ρ) ?_ hd
  intro e t D h
  cases e with
  | normal => obtain ⟨t', D', hp, hs, hk⟩ := h; exact RunC.weaken t' D' hp hs (h2 t' D' hk)
  | _ => exact h
end
section
variable {P : Program}
theorem eqItems_nums (w : World) {e : TypeId} {kt kd : IntKind} (he : P.underlying e = some (.int kt)) (d : Nat) {xs ys : List Int} : ∀ is : List Nat, (∀ i ∈ is, i < xs.length ∧ i < ys.length) →
    (Op.eqItems (d + 1) e 1 (nums kd xs).toArray (nums kd ys).toArray is).run P w = .ok (decide (∀ i ∈ is, xs.getD i 0 = ys.getD i 0)) w
  | [], _ => by simp [Op.eqItems]
  | i :: is, h => by
    have hi := h i (by simp)
    have ih := eqItems_nums w he d (kd := kd) is (fun j hj => h j (by simp [hj]))
    have hp : P.plainKey e = true := by simp [Program.plainKey, he]
    have at_ : ∀ {zs : List Int}, i < zs.length → (nums kd zs).toArray[i * 1]? = some (.int kd (zs.getD i 0)) := fun {zs} hz => by
      rw [Nat.mul_one, List.getElem?_toArray, nums, List.getElem?_map, List.getElem?_eq_getElem hz, List.getD_eq_getElem?_getD, List.getElem?_eq_getElem hz]; rfl
    simp only [Op.eqItems, Sem.run_bind, run_part_plain w hp (at_ hi.1), run_part_plain w hp (at_ hi.2), Result.andThen_ok, run_equalIn_int w d e kd kt _ _ he]
    by_cases hh : xs.getD i 0 = ys.getD i 0
    · have hb : (xs.getD i 0 == ys.getD i 0) = true := by simpa using hh
      rw [hb]
      simp only [Bool.not_true, Bool.false_eq_true, if_false]
      rw [ih]
      congr 1
      apply decide_eq_decide.2
      simp only [List.mem_cons, forall_eq_or_imp, hh, true_and]
    · have hb : (xs.getD i 0 == ys.getD i 0) = false := by simpa using hh
      rw [hb]
      simp only [Bool.not_false, if_true]
      simp only [List.mem_cons, forall_eq_or_imp, hh, false_and, decide_false]
      rfl
theorem eq_getD {xs ys : List Int} (hl : xs.length = ys.length) : (∀ i ∈ List.range xs.length, xs.getD i 0 = ys.getD i 0) ↔ xs = ys := by
  constructor
  · intro h
    apply List.ext_getElem hl
    intro i h1 h2
    have := h i (List.mem_range.2 h1)
    rwa [List.getD_eq_getElem?_getD, List.getElem?_eq_getElem h1, List.getD_eq_getElem?_getD, List.getElem?_eq_getElem h2] at this
  · intro h i _; rw [h]
theorem run_arr_eql (w : World) {T e : TypeId} {i : TypeInfo} {kt kd : IntKind} {xs ys : List Int} (hT : P.underlying T = some (.array xs.length e)) (he : P.underlying e = some (.int kt)) (hi : P.info? e = some i) (hs : i.size = 1) (hl : xs.length = ys.length) (x y : Operand) :
    (eqGuard .eql T x y (.agg (nums kd xs).toArray) (.agg (nums kd ys).toArray)).run P w = .ok () w ∧ (binOp .eql T (.agg (nums kd xs).toArray) (.agg (nums kd ys).toArray)).run P w = .ok (.bool (decide (xs = ys))) w := by
  have hg : P.eqGuardType P.depth T = false := by
    rw [Program.depth]
    simp [Program.eqGuardType, hT, he]
  have hc : P.cellsOf e = 1 := by simp [Program.cellsOf, hi, hs]
  have hq : (Op.equal T (.agg (nums kd xs).toArray) (.agg (nums kd ys).toArray)).run P w = .ok (decide (xs = ys)) w := by
    rw [Op.equal, show Op.maxDepth = 9999 + 1 from rfl, run_equalIn_array w 9999 _ _ hT hi, hc, show (9999 : Nat) = 9998 + 1 from rfl, eqItems_nums w he 9998 _ (fun j hj => by rw [List.mem_range] at hj; omega)]
    congr 1
    exact decide_eq_decide.2 (eq_getD hl)
  exact ⟨run_eqGuard_agg w .eql T x y _ _ hg, by simp [binOp, hq]⟩
end
section
variable {X : Cx} {U : Tab} (hU : U.OK X.P) {t : Env} {D : List Fact} {φ : Env → List Fact → Prop}
include hU
theorem Step.arr_eql {d : Nat} {T yT e : TypeId} {x y : Operand} (n by_ : Nat) (kt kd kz : IntKind) (xs ys : List Int) (hT : look U.und T = some (.array n e)) (he : look U.und e = some (.int kt)) (hti : look U.ti e = some (1, by_, .int kz 0))
    (hx : ev t x = some (.agg (nums kd xs).toArray)) (hy : ev t y = some (.agg (nums kd ys).toArray)) (hn : xs.length = n) (hm : ys.length = n) (hd : Nat.ble (d + 1) X.N = true)
    (k : φ (put t d (.bool (decide (xs = ys)))) D) : Step X (some d) (.binOp .eql T x y yT) t D φ := by
  intro o hdst hop ρ a w ha hw Q K hK
  obtain ⟨i, hi, hs, _, _⟩ := hU.ti _ (look_mem hti)
  have hr := run_arr_eql (P := X.P) w (kd := kd) (xs := xs) (ys := ys) (by rw [hn]; exact hU.und _ (look_mem hT)) (hU.und _ (look_mem he)) hi hs (by omega) x y
  refine wp_val (v := .bool (decide (xs = ys))) (w' := w) ?_ ?_
  · simp [execOp, hop, Sem.run_bind, ha.ev hx, ha.ev hy, hr.1, hr.2]
  · rw [hdst]
    exact hK _ _ _ _ (ha.put (Nat.le_of_ble_eq_true hd) _) hw k
end
end Go.Proofs.Ytaaplakahkgclaa.SL

/- A law's argument that is a slice of structs of a byte and a truth: its cells. -/
namespace Go.Proofs.Ytaaplakahkgclaa.SL
set_option linter.unusedVariables false
open Go
section
variable {X : Cx} {U : Tab} (hU : U.OK X.P) {t : Env} {D : List Fact} {φ : Env → List Fact → Prop}
include hU
end
end Go.Proofs.Ytaaplakahkgclaa.SL

/- Rows that are owned together; a row of structs of a number and a slice; objects: what is owned, as one fact. -/
namespace Go.Proofs.Ytaaplakahkgclaa.SL
set_option linter.unusedVariables false
open Go

def rws (k : IntKind) (G : List Ro) : Fact where
  own := true
  P := (vws (rowsL k G)).P
  loc := (vws (rowsL k G)).loc
  bnd := (vws (rowsL k G)).bnd
theorem tells_rws {k : IntKind} {G : List Ro} {A : Option Addr} {c : Nat} {xs : List Int} (h : (A, c, xs) ∈ G) : Tells (rws k G) A (nums k xs) := fun w fp hp =>
  tells_vws (L := rowsL k G) (List.mem_map.2 ⟨(A, c, xs), h, rfl⟩) w fp hp
abbrev Ch := Int × Ro
def ChOK (k : IntKind) (rs : List Ch) : Prop := ∀ r ∈ rs, fits .i64 r.1 ∧ In k r.2.2.2 ∧ r.2.2.2.length ≤ r.2.2.1 ∧ r.2.2.2.length ≤ 140737488351232
theorem ChOK.nil (k : IntKind) : ChOK k [] := fun r hr => by cases hr
theorem ChOK.append {k : IntKind} {a b : List Ch} (h : ChOK k a) (g : ChOK k b) : ChOK k (a ++ b) := fun r hr => (List.mem_append.1 hr).elim (h r) (g r)
theorem ChOK.one {k : IntKind} {b : Int} {A : Option Addr} {c : Nat} {xs : List Int} (h0 : fits .i64 b) (h1 : In k xs) (h2 : xs.length ≤ c) (h3 : xs.length ≤ 140737488351232) : ChOK k [(b, A, c, xs)] := fun r hr => by
  rcases List.mem_cons.1 hr with rfl | hr
  · exact ⟨h0, h1, h2, h3⟩
  · cases hr
section
variable {X : Cx} {U : Tab} (hU : U.OK X.P) {t : Env} {D : List Fact} {φ : Env → List Fact → Prop}
include hU
theorem Step.cap {d : Nat} {ty : TypeId} {x : Operand} (e : Nat) (A : Option Addr) (n c : Nat) (hty : look U.und ty = some (.slice e)) (hx : ev t x = some (.slice A n c)) (hd : Nat.ble (d + 1) X.N = true)
    (k : φ (put t d (.int .i64 (c : Int))) D) : Step X (some d) (.call { callee := .builtin .cap, args := #[x], argTypes := #[ty] }) t D φ := by
  intro o hdst hop ρ a w ha hw Q K hK
  have hr : (execOp a.eval o).run X.P w = .ok (.value (.int .i64 (c : Int))) w := by
    unfold execOp
    simp only [hop, resolve, invoke, builtin, Sem.run_bind, Sem.run_pure, Result.andThen_ok, List.map_toArray, List.map_cons, List.map_nil]
    simp [Builtin.cap_, ha.ev hx, hU.run_und hty, goInt]
  refine wp_val hr (hK _ _ _ _ ?_ hw k)
  rw [hdst]
  exact ha.put (Nat.le_of_ble_eq_true hd) _
end
section
variable {X : Cx} {U : Tab} {K : Post} {t : Env} {D : List Fact} {ops : Array Oper} {i : Nat}
end

theorem SAT.pulls2 {w0 : World} {W : FP} {D : List Fact} {w : World} (ks : List Nat) (D' : List Fact) (hd : (pulls ks D).1 ++ (pulls ks D).2 = D') (h : SAT w0 W D w) : SAT w0 W D' w := by
  rw [← hd]
  exact h.perm (pulls_perm ks D)
section
variable {X : Cx} {U : Tab} (hU : U.OK X.P) {t : Env} {D : List Fact} {φ : Env → List Fact → Prop}
include hU
end

section
variable {X : Cx} {U : Tab} (hU : U.OK X.P) {t : Env} {D : List Fact} {φ : Env → List Fact → Prop}
include hU
end

section
variable {H : Type} {enc : TypeId × Value → H} {P : Program} {w : World} {base : Nat} {spare : Nat → Bool} {held : Bool}
end
end Go.Proofs.Ytaaplakahkgclaa.SL

/- Regions whose order is drawn: whichever of many operations comes first; what holds of the rest, told by name. -/
namespace Go.Proofs.Ytaaplakahkgclaa.SL
set_option linter.unusedVariables false
open Go
section
variable {X : Cx} {K : Post} {ops : Array Oper} {Θ : List Fact} {ds : List Nat} {fuel : Nat} {l : Array Bool} {t : Env} {D : List Fact}
theorem RunU.name (h : ∀ R, R = RunU X K ops Θ ds → R fuel l t D) : RunU X K ops Θ ds fuel l t D := h _ rfl
theorem RunU.any (L : List Nat) (hL : (Region.ready .any ops l == L) = true) (hne : L.isEmpty = false)
    (h : ∀ j ∈ L, ∃ (dst : Option Tmp) (op : Op) (l' : Array Bool) (ks : List Nat), opInfo ops j t = some (dst, op) ∧ (l.setIfInBounds j true == l') = true ∧ Step X dst op t D (fun t' D' => (atAll D' ks = some Θ ∨ onList ds j = true) ∧ RunU X K ops Θ ds fuel l' t' D')) : RunU X K ops Θ ds (fuel + 1) l t D := by
  have hr : Region.ready .any ops l = L := by simpa using hL
  intro ρ a w ha hw
  refine ⟨fun h0 => (by rw [hr] at h0; rw [h0] at hne; cases hne), fun k hk => ?_⟩
  rw [hr] at hk
  obtain ⟨dst, op, l', ks, h1, h2, hs⟩ := h k hk
  have h2 : l.setIfInBounds k true = l' := by simpa using h2
  subst h2
  obtain ⟨o, ho, hg, hdst, hop⟩ := opInfo_spec h1
  unfold wpOp
  simp only [ho, gd_sound ha hg, if_true]
  refine .inl (hs o hdst hop ρ a w ha hw _ _ (fun t' D' a' w' h3 h4 h5 => ⟨fun hn _ => ?_, h5.2 ρ a' w' h3 h4⟩)).2
  rcases h5.1 with h6 | h6
  · exact atAll_sat h4 h6
  · exact absurd (onList_mem h6) hn
theorem all_nil {P : Nat → Prop} : ∀ j ∈ ([] : List Nat), P j := fun j h => by cases h
theorem all_cons {P : Nat → Prop} {i : Nat} {L : List Nat} (h : P i) (g : ∀ j ∈ L, P j) : ∀ j ∈ i :: L, P j := fun j hj => by
  rcases List.mem_cons.1 hj with rfl | hj
  · exact h
  · exact g j hj
end
end Go.Proofs.Ytaaplakahkgclaa.SL

/- A region whose order is drawn, in a round of a loop over a function: only values, and what comes alone. -/
namespace Go.Proofs.Ytaaplakahkgclaa.SL
set_option linter.unusedVariables false
open Go
def noCall (ops : Array Oper) (i : Nat) : Bool := match ops[i]? with | some o => (match o.op with | .call _ => false | _ => true) | none => false
section
variable {X : Cx} {K : Post} {ops : Array Oper} {U : Tab} (hU : U.OK X.P) {t : Env} {D : List Fact} {Θ : List Fact} {ds : List Nat} {fuel : Nat} {l : Array Bool}
theorem uponIn_of_upon {o : Oper} {a : Act} {next : Act → World → Prop} {Q : Exit → Act → World → Prop} {r : Result Next} (h : o.upon X.P a next Q r) : o.uponIn Fence.wide 0 X.P a next Q r := by
  cases r with
  | ok x w =>
    cases x <;> simp only [Oper.upon, Oper.uponIn] at h ⊢ <;> first
      | exact h
      | exact ⟨fun h => by simp [Fence.wide] at h, (callsIn_wide (n := 0 - 1)).2 h⟩
      | exact ⟨fun h => by simp [Fence.wide] at h, fun c cs _ => by obtain ⟨v, w', r, s⟩ := h c cs; exact ⟨v, w', r, stepsIn_wide.2 s⟩⟩
  | halt x w => cases x <;> simp only [Oper.upon, Oper.uponIn] at h ⊢ <;> exact h
def RunV (X : Cx) (K : Post) (ops : Array Oper) (Θ : List Fact) (ds : List Nat) (fuel : Nat) (l : Array Bool) (t : Env) (D : List Fact) : Prop :=
  ∀ ρ a w, EnvOK X.N ρ t a → SAT ρ.w0 ρ.W D w → wpAnyIn Fence.wide 0 X.P .any ops (den X ρ K) fuel l a w
include hU
theorem RunV.sil (nw : Bool) (i : Nat) (l' : Array Bool) (d : Nat) (v : Value) (C : Prop) (h : silu U nw ops i t = some (d, v, C)) (hC : C) (hc : takeOK ops l l' i = true) (hd : Nat.ble (d + 1) X.N = true)
    (hQ : ∀ c t D, K (.panic c) t D → False) (k : RunV X K ops Θ ds fuel l' (put t d v) D) (hcl : noCall ops i = true := by kernel_rfl) : RunV X K ops Θ ds (fuel + 1) l t D := by
  simp only [takeOK, Bool.and_eq_true, beq_iff_eq] at hc
  obtain ⟨⟨⟨h1, h2⟩, h3⟩, h4⟩ := hc
  subst h4
  intro ρ a w ha hw
  unfold silu at h
  split at h
  · cases h
  · rename_i o ho
    have hab : ∀ w, o.about X.P w a.eval = none := fun w => by
      unfold noCall at hcl
      rw [ho] at hcl
      unfold Oper.about
      cases hop : o.op <;> simp_all
    have key : ∀ (v : Value), o.dst = some d → Yields X.P ops o v a → RunV X K ops Θ ds fuel (l.setIfInBounds i true) (put t d v) D → wpAnyIn Fence.wide 0 X.P .any ops (den X ρ K) (fuel + 1) l a w := by
      intro v hdst hy k
      refine wpAnyIn_take rfl ho h1 h2 h3 (fun c a w hq => ?_) ⟨hy, hab⟩ ?_
      · obtain ⟨_, _, _, _, _, _, hk⟩ := hq; exact (hQ _ _ _ hk).elim
      · rw [hdst]; exact k ρ _ w (ha.put (Nat.le_of_ble_eq_true hd) v) hw
    split at h
    · rename_i d' hg hdst
      cases nw with
      | true =>
        simp only at h
        cases hs : silw U o.op t with
        | none => rw [hs] at h; cases h
        | some p =>
          obtain ⟨v', C'⟩ := p
          rw [hs] at h
          simp only [Option.some.injEq, Prod.mk.injEq] at h
          obtain ⟨rfl, rfl, rfl⟩ := h
          obtain ⟨C2, hC2, hs2⟩ := silw_sil1 hs hC
          exact key v' hdst (.inl ⟨gd_sound ha hg, fun w => sil1_sound hU ha w hs2 hC2⟩) k
      | false =>
        simp only at h
        cases hs : sil1 U o.op t with
        | none => rw [hs] at h; cases h
        | some p =>
          obtain ⟨v', C'⟩ := p
          rw [hs] at h
          simp only [Option.some.injEq, Prod.mk.injEq] at h
          obtain ⟨rfl, rfl, rfl⟩ := h
          exact key v' hdst (.inl ⟨gd_sound ha hg, fun w => sil1_sound hU ha w hs hC⟩) k
    · rename_i d' hg hdst
      simp only [Option.some.injEq, Prod.mk.injEq] at h
      obtain ⟨rfl, rfl, rfl⟩ := h
      exact key undef hdst (.inr ⟨gd_sound ha hg, rfl⟩) k
    · cases h
omit hU in
theorem RunV.one (i : Nat) (l' : Array Bool) {dst : Option Tmp} {op : Op} (ks : List Nat) (h : opInfo ops i t = some (dst, op)) (hc : oneOK ops l l' i = true)
    (hs : Step X dst op t D (fun t' D' => (atAll D' ks = some Θ ∨ onList ds i = true) ∧ RunV X K ops Θ ds fuel l' t' D')) : RunV X K ops Θ ds (fuel + 1) l t D := by
  simp only [oneOK, Bool.and_eq_true, beq_iff_eq] at hc
  obtain ⟨h1, h2⟩ := hc
  subst h2
  obtain ⟨o, ho, hg, hdst, hop⟩ := opInfo_spec h
  intro ρ a w ha hw
  refine wpAnyIn_all h1 (by simp) fun j hj => ?_
  rw [List.mem_singleton] at hj
  subst hj
  unfold wpOpIn
  simp only [ho, gd_sound ha hg, if_true]
  exact ⟨fun _ _ => trivial, uponIn_of_upon (hs o hdst hop ρ a w ha hw _ _ (fun t' D' a' w' h3 h4 h5 => h5.2 ρ a' w' h3 h4)).2⟩
omit hU in
theorem RunV.done (h : (Region.ready .any ops l == []) = true) (k : K .normal t D) : RunV X K ops Θ ds fuel l t D := by
  intro ρ a w ha hw
  have h : Region.ready .any ops l = [] := by simpa using h
  exact wpAnyIn_done h ⟨ρ, t, D, .refl ρ, ha, hw, k⟩ fuel
omit hU in
theorem RunV.enveq (t' : Env) (h : t = t') (k : RunV X K ops Θ ds fuel l t' D) : RunV X K ops Θ ds fuel l t D := by subst h; exact k
omit hU in
theorem RunV.env (keep : List Nat) (t' : Env) (h : pick t keep = t') (k : RunV X K ops Θ ds fuel l t' D) : RunV X K ops Θ ds fuel l t D := by
  subst h
  exact fun ρ a w ha hw => k ρ a w (ha.sub (fun p hp => pick_mem hp)) hw
omit hU in
theorem RunV.turn (D' : List Fact) (hD : ∀ w0 W w, SAT w0 W D w → SAT w0 W D' w) (k : RunV X K ops Θ ds fuel l t D') : RunV X K ops Θ ds fuel l t D := fun ρ a w ha hw => k ρ a w ha (hD _ _ w hw)
end
end Go.Proofs.Ytaaplakahkgclaa.SL

/- A row of bytes that came of a text: it is marked behind its end, and may be written. -/
namespace Go.Proofs.Ytaaplakahkgclaa.SL
set_option linter.unusedVariables false
set_option linter.unusedSimpArgs false
open Go

section
variable {X : Cx} {U : Tab} (hU : U.OK X.P) {t : Env} {D : List Fact} {φ : Env → List Fact → Prop}
include hU
end
end Go.Proofs.Ytaaplakahkgclaa.SL

/- Short words for what walks say again and again. -/
namespace Go.Proofs.Ytaaplakahkgclaa.SL
set_option linter.unusedVariables false
set_option linter.unusedSimpArgs false
open Go

abbrev pt (b : Nat) : Value := .pointer (some ⟨b, 0, none⟩)
abbrev ag (k : IntKind) (xs : List Int) : Value := .agg (nums k xs).toArray
abbrev z5 : Value := .agg #[.int .u64 0, .int .u64 0, .int .u64 0, .int .u64 0, .int .u64 0]
abbrev z32 : Value := .agg #[.int .i64 0, .int .i64 0, .int .i64 0, .int .i64 0, .int .i64 0, .int .i64 0, .int .i64 0, .int .i64 0, .int .i64 0, .int .i64 0, .int .i64 0, .int .i64 0, .int .i64 0, .int .i64 0, .int .i64 0, .int .i64 0, .int .i64 0, .int .i64 0, .int .i64 0, .int .i64 0, .int .i64 0, .int .i64 0, .int .i64 0, .int .i64 0, .int .i64 0, .int .i64 0, .int .i64 0, .int .i64 0, .int .i64 0, .int .i64 0, .int .i64 0, .int .i64 0]
def trues : Nat → Prop
  | 0 => True
  | n + 1 => True ∧ trues n
theorem trues_ok : ∀ n, trues n
  | 0 => trivial
  | n + 1 => ⟨trivial, trues_ok n⟩
section
variable {X : Cx} {K : Post} {ops : Array Oper} {t : Env} {D : List Fact} {i : Nat}
theorem RunR.sl {U : Tab} (hU : U.OK X.P) (nw : List Nat) (n j : Nat) (keep : List Nat) (t' : Env) (m : Nat) (k : RunR X K ops j t' D) (hj : i + n = j := by rfl)
    (h : (SL.sil X.N U nw ops n i t).map (fun p => (pick p.1 keep, p.2)) = some (t', trues m) := by kernel_rfl) : RunR X K ops i t D := RunR.sil hU nw n j keep t' _ hj h (trues_ok m) k
theorem RunR.dn (k : K .normal t D) (hb : Nat.ble ops.size i = true := by kernel_rfl) : RunR X K ops i t D := RunR.done hb k
theorem RunR.st (dst : Option Tmp) (op : Op) (hs : Step X dst op t D (RunR X K ops (i + 1))) (h : opInfo ops i t = some (dst, op) := by kernel_rfl) : RunR X K ops i t D := RunR.step h hs
theorem RunR.ev (keep : List Nat) (t' : Env) (k : RunR X K ops i t' D) (h : pick t keep = t' := by kernel_rfl) : RunR X K ops i t D := RunR.env keep t' h k
theorem RunC.sr {id : Nat} {d : Code} (h : RunR X (kseq X d K) ops 0 t D) : RunC X K (.seq (.region id ops false) d) t D := RunC.seq (RunC.region h)
theorem RunR.nn {c : Code} (h : RunC X K c t D) (hb : Nat.ble ops.size i = true := by kernel_rfl) : RunR X (kseq X c K) ops i t D := RunR.done hb (kseq_n h)
theorem RunR.nx {id : Nat} {d : Code} {ops2 : Array Oper} (h : RunR X (kseq X d K) ops2 0 t D) (hb : Nat.ble ops.size i = true := by kernel_rfl) : RunR X (kseq X (.seq (.region id ops2 false) d) K) ops i t D := RunR.done hb (kseq_n (RunC.seq (RunC.region h)))
theorem RunC.ks {c : Code} (h : RunC X K c t D) : RunC X (kseq X c K) .skip t D := RunC.skip (kseq_n h)
theorem RunC.ksr {id : Nat} {d : Code} (h : RunR X (kseq X d K) ops 0 t D) : RunC X (kseq X (.seq (.region id ops false) d) K) .skip t D := RunC.skip (kseq_n (RunC.seq (RunC.region h)))
end
theorem orR {A B Q : Prop} (k : Q) (h : B := by kernel_rfl) : (A ∨ B) ∧ Q := ⟨.inr h, k⟩
theorem orL {A B Q : Prop} (k : Q) (h : A := by kernel_rfl) : (A ∨ B) ∧ Q := ⟨.inl h, k⟩
section
variable {X : Cx} {K : Post} {ops : Array Oper} {Θ : List Fact} {ds : List Nat} {t : Env} {D : List Fact} {fuel : Nat} {l : Array Bool}
theorem RunU.sl {U : Tab} (hU : U.OK X.P) (i : Nat) (l' : Array Bool) (d : Nat) (v : Value) (k : RunU X K ops Θ ds fuel l' (put t d v) D) (h : silu U false ops i t = some (d, v, True) := by kernel_rfl) (hc : takeOK ops l l' i = true := by kernel_rfl) (hd : Nat.ble (d + 1) X.N = true := by kernel_rfl)
    (hQ : ∀ c t D, K (.panic c) t D → False := by exact fun _ _ _ h => h) : RunU X K ops Θ ds (fuel + 1) l t D := RunU.sil hU false i l' d v True h trivial hc hd hQ k
theorem RunU.rd (i : Nat) (l' : Array Bool) (d : Nat) (op : Op) (v : Value) (ks : List Nat) (hr : Reads X Θ (some d) op t v) (k : RunU X K ops Θ ds fuel l' (put t d v) D) (h : opInfo ops i t = some (some d, op) := by kernel_rfl) (hks : atAll D ks = some Θ := by kernel_rfl) (hc : takeOK ops l l' i = true := by kernel_rfl) (hds : lastOK ops l ds i = true := by kernel_rfl) (hd : Nat.ble (d + 1) X.N = true := by kernel_rfl)
    (hQ : ∀ c t D, K (.panic c) t D → False := by exact fun _ _ _ h => h) : RunU X K ops Θ ds (fuel + 1) l t D := RunU.read i l' d op v ks h hr hks hc hds hd hQ k
theorem RunU.on (dst : Option Tmp) (op : Op) (i : Nat) (l' : Array Bool) (ks : List Nat) (hs : Step X dst op t D (fun t' D' => (atAll D' ks = some Θ ∨ onList ds i = true) ∧ RunU X K ops Θ ds fuel l' t' D')) (h : opInfo ops i t = some (dst, op) := by kernel_rfl) (hc : oneOK ops l l' i = true := by kernel_rfl) :
    RunU X K ops Θ ds (fuel + 1) l t D := RunU.one i l' ks h hc hs
theorem RunU.dn (k : K .normal t D) (h : (Region.ready .any ops l == []) = true := by kernel_rfl) : RunU X K ops Θ ds fuel l t D := RunU.done h k
theorem RunU.ev (keep : List Nat) (t' : Env) (k : RunU X K ops Θ ds fuel l t' D) (h : pick t keep = t' := by kernel_rfl) : RunU X K ops Θ ds fuel l t D := RunU.env keep t' h k
end
section
variable {X : Cx} {t : Env} {D : List Fact} {φ : Env → List Fact → Prop}
theorem Step.cl {d : Option Nat} {c : Operand} {as : Array Operand} {ts : Array TypeId} (f : FuncId) (vs : List Value) (C V E : List Fact) {Φ : Value → List Fact → Prop} (hcall : CallsS X.P f vs (C ++ V) Φ) (ks : List Nat) (hV : Lend E V) (k : ∀ r D', Φ r D' → φ (putO t d r) (D' ++ E))
    (hc : callee t c as.toList = some (f, vs) := by kernel_rfl) (hd : (d.map fun d => Nat.ble (d + 1) X.N).getD true = true := by kernel_rfl) (hD : pulls ks D = (C, E) := by kernel_rfl) : Step X d (.call { callee := .value c, args := as, argTypes := ts }) t D φ := Step.call f vs hc hd C V E hcall ks hD hV k
theorem Step.cn {d : Option Nat} {c : Operand} {as : Array Operand} {ts : Array TypeId} (f : FuncId) (vs : List Value) (C E : List Fact) {Φ : Value → List Fact → Prop} (hcall : CallsS X.P f vs (C ++ []) Φ) (ks : List Nat) (k : ∀ r D', Φ r D' → φ (putO t d r) (D' ++ E))
    (hc : callee t c as.toList = some (f, vs) := by kernel_rfl) (hd : (d.map fun d => Nat.ble (d + 1) X.N).getD true = true := by kernel_rfl) (hD : pulls ks D = (C, E) := by kernel_rfl) : Step X d (.call { callee := .value c, args := as, argTypes := ts }) t D φ := Step.call f vs hc hd C [] E hcall ks hD (Lend.nil _) k
end
section
variable {X : Cx} {U : Tab} (hU : U.OK X.P) {t : Env} {D : List Fact} {φ : Env → List Fact → Prop}
include hU
theorem Step.al {d : Nat} {ty : TypeId} (n b : Nat) (z : Value) (k : ∀ b, φ (put t d (.pointer (some ⟨b, 0, none⟩))) (blk b ty z.cells.toList :: D)) (hz : look U.ti ty = some (n, b, z) := by rfl) (hd : Nat.ble (d + 1) X.N = true := by kernel_rfl) : Step X (some d) (.alloc ty) t D φ := Step.alloc hU n b z hz hd k
theorem Step.ss {ty : TypeId} {x y : Operand} (k0 b o T : Nat) (cs cs' us : List Value) (v : Value) (n : Nat) (hl : us.length = n) (hp : Put cs o us cs') (k : φ t (blk b T cs' :: D.eraseIdx k0)) (hx : ev t x = some (.pointer (some ⟨b, o, none⟩)) := by kernel_rfl) (hy : ev t y = some v := by kernel_rfl) (hD : D[k0]? = some (blk b T cs) := by kernel_rfl)
    (hn : look U.sz ty = some n := by kernel_rfl) (hus : v.cells.toList = us := by kernel_rfl) (h1 : us.all (·.oneCell') = true := by simp only [List.all_append, all_one_nums, Bool.true_and, Bool.and_true] <;> rfl) : Step X none (.store ty x y) t D φ := Step.store_seg hU k0 b o T cs cs' us v hx hy hD n hn hus hl h1 hp k
end
end Go.Proofs.Ytaaplakahkgclaa.SL

/- A law's argument that is a slice of structs of two numbers, a row of bytes and a row of truths. -/
namespace Go.Proofs.Ytaaplakahkgclaa.SL
set_option linter.unusedVariables false
set_option linter.unusedSimpArgs false
open Go
section
variable {X : Cx} {U : Tab} (hU : U.OK X.P) {t : Env}
include hU
end
section
variable {H : Type} {enc : TypeId × Value → H} {P : Program} {w : World}
end
end Go.Proofs.Ytaaplakahkgclaa.SL

/- Rows and structs whose slices are owned together: one of them may be told by two. -/
namespace Go.Proofs.Ytaaplakahkgclaa.SL
set_option linter.unusedVariables false
set_option linter.unusedSimpArgs false
open Go

def poo (k : IntKind) (ss : List Ro) (ws : List Ch) : Fact := rws k (ss ++ ws.map (·.2))
def InPoo (ss : List Ro) (ws : List Ch) (A : Option Addr) (c : Nat) (xs : List Int) : Prop := (A, c, xs) ∈ ss ++ ws.map (·.2)
theorem InPoo.tells {k : IntKind} {ss : List Ro} {ws : List Ch} {A : Option Addr} {c : Nat} {xs : List Int} (h : InPoo ss ws A c xs) : Tells (poo k ss ws) A (nums k xs) := tells_rws (c := c) h
section
variable {w0 : World} {W : FP} {D : List Fact} {w : World} {k : IntKind} {ss : List Ro} {ws : List Ch}
end
theorem RowsOK.set {k : IntKind} {rs : List Ro} {i : Nat} {A : Option Addr} {c : Nat} {xs : List Int} (h : RowsOK k rs) (h1 : In k xs) (h2 : xs.length ≤ c) (h3 : xs.length ≤ 140737488351232) : RowsOK k (rs.set i (A, c, xs)) := fun r hr => by
  rcases List.mem_or_eq_of_mem_set hr with hr | rfl
  · exact h r hr
  · exact ⟨h1, h2, h3⟩
section
variable {X : Cx} {U : Tab} (hU : U.OK X.P) {t : Env} {D : List Fact} {φ : Env → List Fact → Prop}
include hU
end
end Go.Proofs.Ytaaplakahkgclaa.SL
