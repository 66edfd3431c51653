/- A cut: what holds behind a piece of code, told once. Arrays of numbers compared. -/
import Derived.Test.YtkehpipialmneaaSLx
import Derived.ChangeKeysEq
import Derived.Laws.StructEq
namespace Go.Proofs.Ytkehpipialmneaa.SL
set_option linter.unusedVariables false
open Go
section
variable {X : Cx} {K : Post} {t : Env} {D : List Fact} {ψ : Env → List Fact → Prop}
def kcut (ψ : Env → List Fact → Prop) (K : Post) : Post := fun e t D => match e with | .normal => ∃ t' D', (∀ p ∈ t', p ∈ t) ∧ (∀ w0 W w, SAT w0 W D w → SAT w0 W D' w) ∧ ψ t' D' | e => K e t D
theorem kcut_n (keep ks : List Nat) (t' : Env) (D' : List Fact) (ht : pick t keep = t') (hD : (pulls ks D).1 = D') (h : ψ t' D') : kcut ψ K .normal t D :=
  ⟨t', D', fun p hp => by subst ht; exact pick_mem hp, fun _ _ _ hs => hs.sel ks D' hD, h⟩
theorem kcut_r (h : K .ret t D) : kcut ψ K .ret t D := h
theorem kcut_e {j : Nat} (h : K (.exit j) t D) : kcut ψ K (.exit j) t D := h
theorem RunC.cut {c d : Code} (ψ : Env → List Fact → Prop) (h1 : RunC X (kcut ψ K) c t D) (h2 : ∀ t D, ψ t D → RunC X K d t D) : RunC X K (.seq c d) t D := by
  refine RunC.seq fun ρ a w ha hw => wpIn_mono (h1 ρ a w ha hw) fun e a w hd => den_mono (Ext.refl ρ) ?_ hd
  intro e t D h
  cases e with
  | normal => obtain ⟨t', D', hp, hs, hk⟩ := h; exact RunC.weaken t' D' hp hs (h2 t' D' hk)
  | _ => exact h
end
section
variable {P : Program}
theorem eqItems_nums (w : World) {e : TypeId} {kt kd : IntKind} (he : P.underlying e = some (.int kt)) (d : Nat) {xs ys : List Int} : ∀ is : List Nat, (∀ i ∈ is, i < xs.length ∧ i < ys.length) →
    (Op.eqItems (d + 1) e 1 (nums kd xs).toArray (nums kd ys).toArray is).run P w = .ok (decide (∀ i ∈ is, xs.getD i 0 = ys.getD i 0)) w
  | [], _ => by simp [Op.eqItems]
  | i :: is, h => by
    have hi := h i (by simp)
    have ih := eqItems_nums w he d (kd := kd) is (fun j hj => h j (by simp [hj]))
    have hp : P.plainKey e = true := by simp [Program.plainKey, he]
    have at_ : ∀ {zs : List Int}, i < zs.length → (nums kd zs).toArray[i * 1]? = some (.int kd (zs.getD i 0)) := fun {zs} hz => by
      rw [Nat.mul_one, List.getElem?_toArray, nums, List.getElem?_map, List.getElem?_eq_getElem hz, List.getD_eq_getElem?_getD, List.getElem?_eq_getElem hz]; rfl
    simp only [Op.eqItems, Sem.run_bind, run_part_plain w hp (at_ hi.1), run_part_plain w hp (at_ hi.2), Result.andThen_ok, run_equalIn_int w d e kd kt _ _ he]
    by_cases hh : xs.getD i 0 = ys.getD i 0
    · have hb : (xs.getD i 0 == ys.getD i 0) = true := by simpa using hh
      rw [hb]
      simp only [Bool.not_true, Bool.false_eq_true, if_false]
      rw [ih]
      congr 1
      apply decide_eq_decide.2
      simp only [List.mem_cons, forall_eq_or_imp, hh, true_and]
    · have hb : (xs.getD i 0 == ys.getD i 0) = false := by simpa using hh
      rw [hb]
      simp only [Bool.not_false, if_true]
      simp only [List.mem_cons, forall_eq_or_imp, hh, false_and, decide_false]
      rfl
theorem eq_getD {xs ys : List Int} (hl : xs.length = ys.length) : (∀ i ∈ List.range xs.length, xs.getD i 0 = ys.getD i 0) ↔ xs = ys := by
  constructor
  · intro h
    apply List.ext_getElem hl
    intro i h1 h2
    have := h i (List.mem_range.2 h1)
    rwa [List.getD_eq_getElem?_getD, List.getElem?_eq_getElem h1, List.getD_eq_getElem?_getD, List.getElem?_eq_getElem h2] at this
  · intro h i _; rw [h]
theorem run_arr_eql (w : World) {T e : TypeId} {i : TypeInfo} {kt kd : IntKind} {xs ys : List Int} (hT : P.underlying T = some (.array xs.length e)) (he : P.underlying e = some (.int kt)) (hi : P.info? e = some i) (hs : i.size = 1) (hl : xs.length = ys.length) (x y : Operand) :
    (eqGuard .eql T x y (.agg (nums kd xs).toArray) (.agg (nums kd ys).toArray)).run P w = .ok () w ∧ (binOp .eql T (.agg (nums kd xs).toArray) (.agg (nums kd ys).toArray)).run P w = .ok (.bool (decide (xs = ys))) w := by
  have hg : P.eqGuardType P.depth T = false := by
    rw [Program.depth]
    simp [Program.eqGuardType, hT, he]
  have hc : P.cellsOf e = 1 := by simp [Program.cellsOf, hi, hs]
  have hq : (Op.equal T (.agg (nums kd xs).toArray) (.agg (nums kd ys).toArray)).run P w = .ok (decide (xs = ys)) w := by
    rw [Op.equal, show Op.maxDepth = 9999 + 1 from rfl, run_equalIn_array w 9999 _ _ hT hi, hc, show (9999 : Nat) = 9998 + 1 from rfl, eqItems_nums w he 9998 _ (fun j hj => by rw [List.mem_range] at hj; omega)]
    congr 1
    exact decide_eq_decide.2 (eq_getD hl)
  exact ⟨run_eqGuard_agg w .eql T x y _ _ hg, by simp [binOp, hq]⟩
end
section
variable {X : Cx} {U : Tab} (hU : U.OK X.P) {t : Env} {D : List Fact} {φ : Env → List Fact → Prop}
include hU
theorem Step.arr_eql {d : Nat} {T yT e : TypeId} {x y : Operand} (n by_ : Nat) (kt kd kz : IntKind) (xs ys : List Int) (hT : look U.und T = some (.array n e)) (he : look U.und e = some (.int kt)) (hti : look U.ti e = some (1, by_, .int kz 0))
    (hx : ev t x = some (.agg (nums kd xs).toArray)) (hy : ev t y = some (.agg (nums kd ys).toArray)) (hn : xs.length = n) (hm : ys.length = n) (hd : Nat.ble (d + 1) X.N = true)
    (k : φ (put t d (.bool (decide (xs = ys)))) D) : Step X (some d) (.binOp .eql T x y yT) t D φ := by
  intro o hdst hop ρ a w ha hw Q K hK
  obtain ⟨i, hi, hs, _, _⟩ := hU.ti _ (look_mem hti)
  have hr := run_arr_eql (P := X.P) w (kd := kd) (xs := xs) (ys := ys) (by rw [hn]; exact hU.und _ (look_mem hT)) (hU.und _ (look_mem he)) hi hs (by omega) x y
  refine wp_val (v := .bool (decide (xs = ys))) (w' := w) ?_ ?_
  · simp [execOp, hop, Sem.run_bind, ha.ev hx, ha.ev hy, hr.1, hr.2]
  · rw [hdst]
    exact hK _ _ _ _ (ha.put (Nat.le_of_ble_eq_true hd) _) hw k
end
end Go.Proofs.Ytkehpipialmneaa.SL
