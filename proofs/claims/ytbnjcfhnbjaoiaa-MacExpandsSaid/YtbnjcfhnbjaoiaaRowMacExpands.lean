/- The row of the law MacExpands: it returns true, and its arguments read as they did, for every input. -/
import Derived.Test.YtbnjcfhnbjaoiaaRows
import Derived.Test.YtbnjcfhnbjaoiaaLMacExpands
import Derived.Test.YtbnjcfhnbjaoiaaSLz
import Derived.Test.YtbnjcfhnbjaoiaaSLs
import Derived.WalkKit
import Derived.ProofKit
import Derived.OpenShut
import Derived.ShutString
import Derived.ChangeOld
import Derived.Below
import Derived.SizedLaws
namespace Go.Proofs.Ytbnjcfhnbjaoiaa.macExpands
open Go.ChangeShapes Go.WideShapes Go.ChangeAt Go.RowKit Go.Proofs.Ytbnjcfhnbjaoiaa.SL Go.Proofs.Ytbnjcfhnbjaoiaa.SL.W Go.Proofs.Ytbnjcfhnbjaoiaa.SL.C Go.Proofs.Ytbnjcfhnbjaoiaa.SL.H Go.Proofs.Ytbnjcfhnbjaoiaa.SL.M Go.Proofs.Ytbnjcfhnbjaoiaa.LMacExpands
open Go.ChangeMaps (open_string shut_string)
set_option linter.unusedVariables false
theorem own : ownKnob Try.prog.godebug = none := by kernel_rfl
theorem laidOut : laidOutB Try.prog = true := by kernel_rfl
set_option maxRecDepth 100000 in
theorem lifted (os : Os) (started : os.Started) (H : Type) (enc : TypeId × Value → H) :
    ReturnsInHanded {} Try.checked os 7 .any (Rows.macExpandsSpec.pre6 enc Try.prog Try.f7 Rows.macExpandsRow.domain false) (Rows.macExpandsSpec.post enc Try.prog Try.f7 false true false false) := by
  refine returnsInHanded_of_change_sized (C := Try.checked) own started (by kernel_rfl) Try.func7
    (ChangeSpec.witness6 (enc := enc) (C := Try.checked) false ⟨#[], #[.agg #[.slice none 0 0, .slice none 0 0, .slice none 0 0, .int .i64 0]], []⟩ 8 (by kernel_rfl) (by kernel_rfl) (by kernel_rfl) (by kernel_rfl)) ?_
  intro W base args ds gs before hval0 hW hcnd hsz0 _
  have hsz : (DataW.weightsEach Try.prog (Try.f7.params.toList ++ Rows.macExpandsSpec.plain.varTypes Try.prog) (ds ++ gs)).all (· ≤ reachBytes) = true := hsz0
  have hval : ∀ (j : Nat) t v, Try.f7.params[j]? = some t → args[j]? = some v → Value.okWide Try.prog W .any base t v := hval0
  have hW' := hW
  obtain ⟨p, q, hA0, hV, rfl, hfz, hnd⟩ := hW
  have hA : DataW.TrodAll enc Try.prog W 0 (fun _ => true) true Try.f7.params.toList args.toList ds p := hA0
  rw [Try.params7] at hA hval hsz
  obtain ⟨v0, vs0, d0, ds0, p0, q0, hargs, rfl, rfl, h0, r0⟩ := trodAll_cons hA
  obtain ⟨rfl, rfl, rfl⟩ := trodAll_nil r0
  obtain rfl : args = #[v0] := by cases args; simp_all
  obtain ⟨rfl, rfl⟩ := trodVars_none hV
  have k0 := h0
  have lt0 : ∀ x ∈ p0, x.block < W.heap.size := by obtain ⟨m, hm⟩ := k0; exact DataW.trod_lt m _ _ _ hm
  obtain ⟨cs0, rfl, hcs0⟩ := struct_arg Try.underlying45 (hval 0 45 v0 rfl rfl) h0 (opens_struct Try.underlying45 (by kernel_rfl) (by kernel_rfl) (OpenAll.cons (opens_ints (fun _ => rfl) Try.underlying22 Try.underlying5 (by kernel_rfl)) (OpenAll.cons (opens_ints (fun _ => rfl) Try.underlying22 Try.underlying5 (by kernel_rfl)) (OpenAll.cons (opens_ints (fun _ => rfl) Try.underlying22 Try.underlying5 (by kernel_rfl)) (OpenAll.cons (opens_int Try.underlying3) OpenAll.nil)))))
  obtain ⟨_, _, rfl, ⟨a0_0, len0_0, cap0_0, z0_0, rfl, w0_0⟩, _, _, rfl, ⟨a0_1, len0_1, cap0_1, z0_1, rfl, w0_1⟩, _, _, rfl, ⟨a0_2, len0_2, cap0_2, z0_2, rfl, w0_2⟩, y0_3, rfl, fy0_3⟩ := hcs0
  obtain ⟨y0_0, hy0_0, hlc0_0, iy0_0, hc0_0⟩ := w0_0.use
  obtain ⟨y0_1, hy0_1, hlc0_1, iy0_1, hc0_1⟩ := w0_1.use
  obtain ⟨y0_2, hy0_2, hlc0_2, iy0_2, hc0_2⟩ := w0_2.use
  clear hA0 hval0 hsz0 hsz
  refine (CallsS.law (l3_MacExpands_spec a0_0 cap0_0 y0_0 a0_1 cap0_1 y0_1 a0_2 cap0_2 y0_2 y0_3 len0_0 len0_1 len0_2 (by first | assumption | omega) (by first | assumption | omega) (by first | assumption | omega) (by first | assumption | omega) (by first | assumption | omega) (by first | assumption | omega) (by first | assumption | omega) (by first | assumption | omega) (by first | assumption | omega) (by first | assumption | omega)) ((((SAT.start W).arg a0_2 (nums .u8 y0_2) hc0_2).arg a0_1 (nums .u8 y0_1) hc0_1).arg a0_0 (nums .u8 y0_0) hc0_0)).mono fun e W' ⟨he, bel⟩ => ?_
  subst he
  exact ⟨_, rfl, _, _, _, [], _, [], hW', trodAll_mk1 (shut_bool Try.underlying4 _), (trodAll_cons_mk (Below.trod laidOut (by kernel_rfl) (of_decide_eq_true (by kernel_rfl)) k0 bel lt0) trodAll_mk0), rfl, bel.frame _, fun h => by cases h⟩
theorem over : Rows.macExpandsRow.holds Try.pinned (OpenSpec.ofChange Rows.macExpandsSpec) :=
  OpenClaim.holds_of_wide 7 Try.f7 rfl rfl rfl rfl rfl rfl rfl ⟨rfl, rfl, rfl, rfl, rfl⟩ rfl rfl rfl rfl rfl (by kernel_rfl) Try.func7 (by kernel_rfl)
    (of_decide_eq_true (by kernel_rfl)) (by unfold Func.isWrapper; first | (rw [if_pos (by decide +kernel)]; kernel_rfl) | (rw [if_neg (by decide +kernel)]; exact ⟨rfl, rfl⟩))
    (fun os started H enc _ => lifted os started H enc)
end Go.Proofs.Ytbnjcfhnbjaoiaa.macExpands
namespace Go.Proofs.Ytbnjcfhnbjaoiaa
/-- The law MacExpands holds of the given program: for every input it returns true, and its arguments read as they did. -/
theorem macExpands_holds : Rows.MacExpandsSaid := macExpands.over
#print axioms macExpands_holds
end Go.Proofs.Ytbnjcfhnbjaoiaa
