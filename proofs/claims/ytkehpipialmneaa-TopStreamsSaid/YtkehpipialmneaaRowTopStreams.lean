/- The row of the law TopStreams: it returns true, and its arguments read as they did, for every input. -/
import Derived.Test.YtkehpipialmneaaRows
import Derived.Test.YtkehpipialmneaaLTopStreams
import Derived.Test.YtkehpipialmneaaSLw
import Derived.WalkKit
import Derived.ProofKit
import Derived.OpenShut
import Derived.ShutString
import Derived.ChangeOld
import Derived.Below
import Derived.SizedLaws
namespace Go.Proofs.Ytkehpipialmneaa.topStreams
open Go.ChangeShapes Go.WideShapes Go.ChangeAt Go.RowKit Go.Proofs.Ytkehpipialmneaa.SL Go.Proofs.Ytkehpipialmneaa.SL.W Go.Proofs.Ytkehpipialmneaa.SL.C Go.Proofs.Ytkehpipialmneaa.SL.H Go.Proofs.Ytkehpipialmneaa.SL.M Go.Proofs.Ytkehpipialmneaa.SL.Y Go.Proofs.Ytkehpipialmneaa.SL.A Go.Proofs.Ytkehpipialmneaa.SL.B Go.Proofs.Ytkehpipialmneaa.LTopStreams
open Go.ChangeMaps (open_string shut_string)
set_option linter.unusedVariables false
theorem own : ownKnob Try.prog.godebug = none := by kernel_rfl
theorem laidOut : laidOutB Try.prog = true := by kernel_rfl
set_option maxRecDepth 100000 in
theorem lifted (os : Os) (started : os.Started) (H : Type) (enc : TypeId × Value → H) :
    ReturnsInHanded {} Try.checked os 5 .any (Rows.topStreamsSpec.pre6 enc Try.prog Try.f5 Rows.topStreamsRow.domain false) (Rows.topStreamsSpec.post enc Try.prog Try.f5 false true false false) := by
  refine returnsInHanded_of_change_sized (C := Try.checked) own started (by kernel_rfl) Try.func5
    (ChangeSpec.witness6 (enc := enc) (C := Try.checked) false ⟨#[], #[.agg #[.int .u8 0, .int .u8 0, .int .u8 0, .int .u8 0, .int .u8 0, .int .u8 0, .int .u8 0, .int .u8 0, .int .u8 0, .int .u8 0, .int .u8 0, .int .u8 0, .int .u8 0, .int .u8 0, .int .u8 0, .int .u8 0, .int .u8 0, .int .u8 0, .int .u8 0, .int .u8 0, .int .u8 0, .int .u8 0, .int .u8 0, .int .u8 0, .int .u8 0, .int .u8 0, .int .u8 0, .int .u8 0, .int .u8 0, .int .u8 0, .int .u8 0, .int .u8 0, .int .u8 0, .int .u8 0, .int .u8 0, .int .u8 0, .int .u8 0, .int .u8 0, .int .u8 0, .slice none 0 0, .slice none 0 0, .int .u16 0], .int .u16 0], []⟩ 8 (by kernel_rfl) (by kernel_rfl) (by kernel_rfl) (by kernel_rfl)) ?_
  intro W base args ds gs before hval0 hW hcnd hsz0 _
  have hsz : (DataW.weightsEach Try.prog (Try.f5.params.toList ++ Rows.topStreamsSpec.plain.varTypes Try.prog) (ds ++ gs)).all (· ≤ reachBytes) = true := hsz0
  have hval : ∀ (j : Nat) t v, Try.f5.params[j]? = some t → args[j]? = some v → Value.okWide Try.prog W .any base t v := hval0
  have hW' := hW
  obtain ⟨p, q, hA0, hV, rfl, hfz, hnd⟩ := hW
  have hA : DataW.TrodAll enc Try.prog W 0 (fun _ => true) true Try.f5.params.toList args.toList ds p := hA0
  rw [Try.params5] at hA hval hsz
  obtain ⟨v0, vs0, d0, ds0, p0, q0, hargs, rfl, rfl, h0, r0⟩ := trodAll_cons hA
  obtain ⟨v1, vs1, d1, ds1, p1, q1, rfl, rfl, rfl, h1, r1⟩ := trodAll_cons r0
  obtain ⟨rfl, rfl, rfl⟩ := trodAll_nil r1
  obtain rfl : args = #[v0, v1] := by cases args; simp_all
  obtain ⟨rfl, rfl⟩ := trodVars_none hV
  have k0 := h0
  have lt0 : ∀ x ∈ p0, x.block < W.heap.size := by obtain ⟨m, hm⟩ := k0; exact DataW.trod_lt m _ _ _ hm
  obtain ⟨cs0, rfl, hcs0⟩ := struct_arg Try.underlying39 (hval 0 39 v0 rfl rfl) h0 (opens_struct Try.underlying39 (by kernel_rfl) (by kernel_rfl) (OpenAll.cons (opens_nums Try.underlying22 Try.underlying5 (by kernel_rfl) (by kernel_rfl)) (OpenAll.cons (opens_nums Try.underlying36 Try.underlying5 (by kernel_rfl) (by kernel_rfl)) (OpenAll.cons (opens_ints (fun _ => rfl) Try.underlying24 Try.underlying5 (by kernel_rfl)) (OpenAll.cons (opens_ints (fun _ => rfl) Try.underlying24 Try.underlying5 (by kernel_rfl)) (OpenAll.cons (opens_int Try.underlying37) OpenAll.nil))))))
  obtain ⟨_, _, rfl, ⟨y0_0, rfl, hy0_0, iy0_0⟩, _, _, rfl, ⟨y0_1, rfl, hy0_1, iy0_1⟩, _, _, rfl, ⟨a0_2, len0_2, cap0_2, z0_2, rfl, w0_2⟩, _, _, rfl, ⟨a0_3, len0_3, cap0_3, z0_3, rfl, w0_3⟩, y0_4, rfl, fy0_4⟩ := hcs0
  obtain ⟨y0_2, hy0_2, hlc0_2, iy0_2, hc0_2⟩ := w0_2.use
  obtain ⟨y0_3, hy0_3, hlc0_3, iy0_3, hc0_3⟩ := w0_3.use
  obtain ⟨a1, rfl, rfl, rfl, w1⟩ := open_int Try.underlying37 (hval 1 37 v1 rfl rfl) h1
  have f1 := wf_fits w1
  clear hA0 hval0 hsz0 hsz
  refine (CallsS.law (t_TopStreams_spec y0_0 y0_1 a0_2 cap0_2 y0_2 a0_3 cap0_3 y0_3 y0_4 a1 len0_2 len0_3 (by first | assumption | omega) (by first | assumption | omega) (by first | assumption | omega) (by first | assumption | omega) (by first | assumption | omega) (by first | assumption | omega) (by first | assumption | omega) (by first | assumption | omega) (by first | assumption | omega) (by first | assumption | omega) (by first | assumption | omega) (by first | assumption | omega)) (((SAT.start W).arg a0_3 (nums .u8 y0_3) hc0_3).arg a0_2 (nums .u8 y0_2) hc0_2)).mono fun e W' ⟨he, bel⟩ => ?_
  subst he
  exact ⟨_, rfl, _, _, _, [], _, [], hW', trodAll_mk1 (shut_bool Try.underlying4 _), (trodAll_cons_mk (Below.trod laidOut (by kernel_rfl) (of_decide_eq_true (by kernel_rfl)) k0 bel lt0) (trodAll_cons_mk (shut_int Try.underlying37 w1) trodAll_mk0)), rfl, bel.frame _, fun h => by cases h⟩
theorem over : Rows.topStreamsRow.holds Try.pinned (OpenSpec.ofChange Rows.topStreamsSpec) :=
  OpenClaim.holds_of_wide 5 Try.f5 rfl rfl rfl rfl rfl rfl rfl ⟨rfl, rfl, rfl, rfl, rfl⟩ rfl rfl rfl rfl rfl (by kernel_rfl) Try.func5 (by kernel_rfl)
    (of_decide_eq_true (by kernel_rfl)) (by unfold Func.isWrapper; first | (rw [if_pos (by decide +kernel)]; kernel_rfl) | (rw [if_neg (by decide +kernel)]; exact ⟨rfl, rfl⟩))
    (fun os started H enc _ => lifted os started H enc)
end Go.Proofs.Ytkehpipialmneaa.topStreams
namespace Go.Proofs.Ytkehpipialmneaa
/-- The law TopStreams holds of the given program: for every input it returns true, and its arguments read as they did. -/
theorem topStreams_holds : Rows.TopStreamsSaid := topStreams.over
#print axioms topStreams_holds
end Go.Proofs.Ytkehpipialmneaa
