/- The row of the law ShaParts: it returns true, and its arguments read as they did, for every input. -/
import Derived.Test.YtoaoabnhkiijpaaRows
import Derived.Test.YtoaoabnhkiijpaaLShaParts
import Derived.Test.YtoaoabnhkiijpaaSLz
import Derived.Test.YtoaoabnhkiijpaaSLs
import Derived.WalkKit
import Derived.ProofKit
import Derived.OpenShut
import Derived.ShutString
import Derived.ChangeOld
import Derived.Below
import Derived.SizedLaws
namespace Go.Proofs.Ytoaoabnhkiijpaa.shaParts
open Go.ChangeShapes Go.WideShapes Go.ChangeAt Go.RowKit Go.Proofs.Ytoaoabnhkiijpaa.SL Go.Proofs.Ytoaoabnhkiijpaa.SL.W Go.Proofs.Ytoaoabnhkiijpaa.SL.C Go.Proofs.Ytoaoabnhkiijpaa.SL.H Go.Proofs.Ytoaoabnhkiijpaa.LShaParts
open Go.ChangeMaps (open_string shut_string)
set_option linter.unusedVariables false
theorem own : ownKnob Try.prog.godebug = none := by kernel_rfl
theorem laidOut : laidOutB Try.prog = true := by kernel_rfl
set_option maxRecDepth 100000 in
theorem lifted (os : Os) (started : os.Started) (H : Type) (enc : TypeId × Value → H) :
    ReturnsInHanded {} Try.checked os 8 .any (Rows.shaPartsSpec.pre6 enc Try.prog Try.f8 Rows.shaPartsRow.domain false) (Rows.shaPartsSpec.post enc Try.prog Try.f8 false true false false) := by
  refine returnsInHanded_of_change_sized (C := Try.checked) own started (by kernel_rfl) Try.func8
    (ChangeSpec.witness6 (enc := enc) (C := Try.checked) false ⟨#[], #[.slice none 0 0], []⟩ 8 (by kernel_rfl) (by kernel_rfl) (by kernel_rfl) (by kernel_rfl)) ?_
  intro W base args ds gs before hval0 hW hcnd hsz0 _
  have hsz : (DataW.weightsEach Try.prog (Try.f8.params.toList ++ Rows.shaPartsSpec.plain.varTypes Try.prog) (ds ++ gs)).all (· ≤ reachBytes) = true := hsz0
  have hval : ∀ (j : Nat) t v, Try.f8.params[j]? = some t → args[j]? = some v → Value.okWide Try.prog W .any base t v := hval0
  have hW' := hW
  obtain ⟨p, q, hA0, hV, rfl, hfz, hnd⟩ := hW
  have hA : DataW.TrodAll enc Try.prog W 0 (fun _ => true) true Try.f8.params.toList args.toList ds p := hA0
  rw [Try.params8] at hA hval hsz
  obtain ⟨v0, vs0, d0, ds0, p0, q0, hargs, rfl, rfl, h0, r0⟩ := trodAll_cons hA
  obtain ⟨rfl, rfl, rfl⟩ := trodAll_nil r0
  obtain rfl : args = #[v0] := by cases args; simp_all
  obtain ⟨rfl, rfl⟩ := trodVars_none hV
  obtain ⟨a0, len0, cap0, rfl⟩ := okWide_slice Try.underlying40 (hval 0 40 v0 rfl rfl)
  have k0 := h0
  have lt0 : ∀ x ∈ p0, x.block < W.heap.size := by obtain ⟨m, hm⟩ := k0; exact DataW.trod_lt m _ _ _ hm
  have ww0 : ∀ n ∈ DataW.weights Try.prog 40 d0, n ≤ reachBytes := fun n hn => by have := List.all_eq_true.1 hsz n (DataW.weights_mem_each (j := 0) rfl rfl n hn); simpa using this
  obtain ⟨a0, len0, cap0, x0, e0, hx0, hlc0, y0, ok0, hc0, ht0⟩ : ∃ (a : Option Addr) (len cap : Nat) (rs : List Ro), (a0 = a ∧ len0 = len ∧ cap0 = cap) ∧ rs.length = len ∧ len ≤ cap ∧ len * 24 ≤ 140737488351232 ∧ RowsOK .u8 rs ∧ (0 < (rowsV rs).length → ∃ y, a = some y ∧ ∀ j v, (rowsV rs)[j]? = some v → W.cell? (y.add j) = some v) ∧ ∀ r ∈ rs, Go.Proofs.Ytoaoabnhkiijpaa.SL.Told .u8 W r.1 r.2.2 := by
    obtain ⟨fuel, hf⟩ := h0
    obtain ⟨a, len, cap, rs, hcs, r⟩ := openw_rows Try.underlying40 (by kernel_rfl) (by kernel_rfl) Try.underlying22 Try.underlying5 (by kernel_rfl) (by kernel_rfl) fuel _ _ hf ww0
    simp [Value.cells] at hcs
    exact ⟨a, len, cap, rs, hcs, r⟩
  obtain ⟨rfl, rfl, rfl⟩ := e0
  clear hA0 hval0 hsz0 hsz
  refine (CallsS.law (l2_ShaParts_spec a0 cap0 x0 len0 (by first | assumption | omega) (by first | assumption | omega) (by first | assumption | omega)) (((SAT.start W).args .u8 x0 ht0).arg a0 (rowsV x0) hc0)).mono fun e W' ⟨he, bel⟩ => ?_
  subst he
  exact ⟨_, rfl, _, _, _, [], _, [], hW', trodAll_mk1 (shut_bool Try.underlying4 _), (trodAll_cons_mk (Below.trod laidOut (by kernel_rfl) (of_decide_eq_true (by kernel_rfl)) k0 bel lt0) trodAll_mk0), rfl, bel.frame _, fun h => by cases h⟩
theorem over : Rows.shaPartsRow.holds Try.pinned (OpenSpec.ofChange Rows.shaPartsSpec) :=
  OpenClaim.holds_of_wide 8 Try.f8 rfl rfl rfl rfl rfl rfl rfl ⟨rfl, rfl, rfl, rfl, rfl⟩ rfl rfl rfl rfl rfl (by kernel_rfl) Try.func8 (by kernel_rfl)
    (of_decide_eq_true (by kernel_rfl)) (by unfold Func.isWrapper; first | (rw [if_pos (by decide +kernel)]; kernel_rfl) | (rw [if_neg (by decide +kernel)]; exact ⟨rfl, rfl⟩))
    (fun os started H enc _ => lifted os started H enc)
end Go.Proofs.Ytoaoabnhkiijpaa.shaParts
namespace Go.Proofs.Ytoaoabnhkiijpaa
/-- The law ShaParts holds of the given program: for every input it returns true, and its arguments read as they did. -/
theorem shaParts_holds : Rows.ShaPartsSaid := shaParts.over
#print axioms shaParts_holds
end Go.Proofs.Ytoaoabnhkiijpaa
