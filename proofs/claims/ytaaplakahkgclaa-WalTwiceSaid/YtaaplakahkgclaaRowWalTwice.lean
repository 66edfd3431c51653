/- The row of the law WalTwice: it returns true, and its arguments read as they did, for every input. -/
import Derived.Test.YtaaplakahkgclaaRows
import Derived.Test.YtaaplakahkgclaaLWalTwice
import Derived.Test.YtaaplakahkgclaaSLw
import Derived.WalkKit
import Derived.ProofKit
import Derived.OpenShut
import Derived.ShutString
import Derived.ChangeOld
import Derived.Below
import Derived.SizedLaws
namespace Go.Proofs.Ytaaplakahkgclaa.walTwice
open Go.ChangeShapes Go.WideShapes Go.ChangeAt Go.RowKit Go.Proofs.Ytaaplakahkgclaa.SL Go.Proofs.Ytaaplakahkgclaa.SL.W Go.Proofs.Ytaaplakahkgclaa.SL.D Go.Proofs.Ytaaplakahkgclaa.LWalTwice
open Go.ChangeMaps (open_string shut_string)
set_option linter.unusedVariables false
theorem own : ownKnob Try.prog.godebug = none := by kernel_rfl
theorem laidOut : laidOutB Try.prog = true := by kernel_rfl
set_option maxRecDepth 100000 in
theorem lifted (os : Os) (started : os.Started) (H : Type) (enc : TypeId × Value → H) :
    ReturnsInHanded {} Try.checked os 3 .any (Rows.walTwiceSpec.pre6 enc Try.prog Try.f3 Rows.walTwiceRow.domain false) (Rows.walTwiceSpec.post enc Try.prog Try.f3 false true false false) := by
  refine returnsInHanded_of_change_sized (C := Try.checked) own started (by kernel_rfl) Try.func3
    (ChangeSpec.witness6 (enc := enc) (C := Try.checked) false ⟨#[], #[.agg #[.slice none 0 0, .slice none 0 0, .int .i64 0, .slice none 0 0, .int .i64 0, .slice none 0 0], .agg #[.slice none 0 0, .slice none 0 0, .int .i64 0, .slice none 0 0, .int .i64 0, .slice none 0 0]], []⟩ 8 (by kernel_rfl) (by kernel_rfl) (by kernel_rfl) (by kernel_rfl)) ?_
  intro W base args ds gs before hval0 hW hcnd hsz0 _
  have hsz : (DataW.weightsEach Try.prog (Try.f3.params.toList ++ Rows.walTwiceSpec.plain.varTypes Try.prog) (ds ++ gs)).all (· ≤ reachBytes) = true := hsz0
  have hval : ∀ (j : Nat) t v, Try.f3.params[j]? = some t → args[j]? = some v → Value.okWide Try.prog W .any base t v := hval0
  have hW' := hW
  obtain ⟨p, q, hA0, hV, rfl, hfz, hnd⟩ := hW
  have hA : DataW.TrodAll enc Try.prog W 0 (fun _ => true) true Try.f3.params.toList args.toList ds p := hA0
  rw [Try.params3] at hA hval hsz
  obtain ⟨v0, vs0, d0, ds0, p0, q0, hargs, rfl, rfl, h0, r0⟩ := trodAll_cons hA
  obtain ⟨v1, vs1, d1, ds1, p1, q1, rfl, rfl, rfl, h1, r1⟩ := trodAll_cons r0
  obtain ⟨rfl, rfl, rfl⟩ := trodAll_nil r1
  obtain rfl : args = #[v0, v1] := by cases args; simp_all
  obtain ⟨rfl, rfl⟩ := trodVars_none hV
  have k0 := h0
  have lt0 : ∀ x ∈ p0, x.block < W.heap.size := by obtain ⟨m, hm⟩ := k0; exact DataW.trod_lt m _ _ _ hm
  obtain ⟨cs0, rfl, hcs0⟩ := struct_arg Try.underlying26 (hval 0 26 v0 rfl rfl) h0 (opens_struct Try.underlying26 (by kernel_rfl) (by kernel_rfl) (OpenAll.cons (opens_ints (fun _ => rfl) Try.underlying22 Try.underlying3 (by kernel_rfl)) (OpenAll.cons (opens_ints (fun _ => rfl) Try.underlying23 Try.underlying5 (by kernel_rfl)) (OpenAll.cons (opens_int Try.underlying3) (OpenAll.cons (Go.Proofs.Ytaaplakahkgclaa.SL.opens_bools Try.underlying24 Try.underlying4 (by kernel_rfl)) (OpenAll.cons (opens_int Try.underlying3) (OpenAll.cons (Go.Proofs.Ytaaplakahkgclaa.SL.opens_bools Try.underlying24 Try.underlying4 (by kernel_rfl)) OpenAll.nil)))))))
  obtain ⟨_, _, rfl, ⟨a0_0, len0_0, cap0_0, z0_0, rfl, w0_0⟩, _, _, rfl, ⟨a0_1, len0_1, cap0_1, z0_1, rfl, w0_1⟩, _, _, rfl, ⟨y0_2, rfl, fy0_2⟩, _, _, rfl, ⟨a0_3, cap0_3, b0_3, rfl, _, _, _⟩, _, _, rfl, ⟨y0_4, rfl, fy0_4⟩, a0_5, cap0_5, b0_5, rfl, _, _, _⟩ := hcs0
  obtain ⟨y0_0, hy0_0, hlc0_0, iy0_0, hc0_0⟩ := w0_0.use
  obtain ⟨y0_1, hy0_1, hlc0_1, iy0_1, hc0_1⟩ := w0_1.use
  have k1 := h1
  have lt1 : ∀ x ∈ p1, x.block < W.heap.size := by obtain ⟨m, hm⟩ := k1; exact DataW.trod_lt m _ _ _ hm
  obtain ⟨cs1, rfl, hcs1⟩ := struct_arg Try.underlying26 (hval 1 26 v1 rfl rfl) h1 (opens_struct Try.underlying26 (by kernel_rfl) (by kernel_rfl) (OpenAll.cons (opens_ints (fun _ => rfl) Try.underlying22 Try.underlying3 (by kernel_rfl)) (OpenAll.cons (opens_ints (fun _ => rfl) Try.underlying23 Try.underlying5 (by kernel_rfl)) (OpenAll.cons (opens_int Try.underlying3) (OpenAll.cons (Go.Proofs.Ytaaplakahkgclaa.SL.opens_bools Try.underlying24 Try.underlying4 (by kernel_rfl)) (OpenAll.cons (opens_int Try.underlying3) (OpenAll.cons (Go.Proofs.Ytaaplakahkgclaa.SL.opens_bools Try.underlying24 Try.underlying4 (by kernel_rfl)) OpenAll.nil)))))))
  obtain ⟨_, _, rfl, ⟨a1_0, len1_0, cap1_0, z1_0, rfl, w1_0⟩, _, _, rfl, ⟨a1_1, len1_1, cap1_1, z1_1, rfl, w1_1⟩, _, _, rfl, ⟨y1_2, rfl, fy1_2⟩, _, _, rfl, ⟨a1_3, cap1_3, b1_3, rfl, _, _, _⟩, _, _, rfl, ⟨y1_4, rfl, fy1_4⟩, a1_5, cap1_5, b1_5, rfl, _, _, _⟩ := hcs1
  obtain ⟨y1_0, hy1_0, hlc1_0, iy1_0, hc1_0⟩ := w1_0.use
  obtain ⟨y1_1, hy1_1, hlc1_1, iy1_1, hc1_1⟩ := w1_1.use
  clear hA0 hval0 hsz0 hsz
  refine (CallsS.law (wl_WalTwice_spec a0_0 cap0_0 y0_0 a0_1 cap0_1 y0_1 y0_2 a0_3 (b0_3.length) cap0_3 y0_4 a0_5 (b0_5.length) cap0_5 a1_0 cap1_0 y1_0 a1_1 cap1_1 y1_1 y1_2 a1_3 (b1_3.length) cap1_3 y1_4 a1_5 (b1_5.length) cap1_5 len0_0 len0_1 len1_0 len1_1 (by first | assumption | omega) (by first | assumption | omega) (by first | assumption | omega) (by first | assumption | omega) (by first | assumption | omega) (by first | assumption | omega) (by first | assumption | omega) (by first | assumption | omega)) (((((SAT.start W).arg a1_1 (nums .u8 y1_1) hc1_1).arg a1_0 (nums .i64 y1_0) hc1_0).arg a0_1 (nums .u8 y0_1) hc0_1).arg a0_0 (nums .i64 y0_0) hc0_0)).mono fun e W' ⟨he, bel⟩ => ?_
  subst he
  exact ⟨_, rfl, _, _, _, [], _, [], hW', trodAll_mk1 (shut_bool Try.underlying4 _), (trodAll_cons_mk (Below.trod laidOut (by kernel_rfl) (of_decide_eq_true (by kernel_rfl)) k0 bel lt0) (trodAll_cons_mk (Below.trod laidOut (by kernel_rfl) (of_decide_eq_true (by kernel_rfl)) k1 bel lt1) trodAll_mk0)), rfl, bel.frame _, fun h => by cases h⟩
theorem over : Rows.walTwiceRow.holds Try.pinned (OpenSpec.ofChange Rows.walTwiceSpec) :=
  OpenClaim.holds_of_wide 3 Try.f3 rfl rfl rfl rfl rfl rfl rfl ⟨rfl, rfl, rfl, rfl, rfl⟩ rfl rfl rfl rfl rfl (by kernel_rfl) Try.func3 (by kernel_rfl)
    (of_decide_eq_true (by kernel_rfl)) (by unfold Func.isWrapper; first | (rw [if_pos (by decide +kernel)]; kernel_rfl) | (rw [if_neg (by decide +kernel)]; exact ⟨rfl, rfl⟩))
    (fun os started H enc _ => lifted os started H enc)
end Go.Proofs.Ytaaplakahkgclaa.walTwice
namespace Go.Proofs.Ytaaplakahkgclaa
/-- The law WalTwice holds of the given program: for every input it returns true, and its arguments read as they did. -/
theorem walTwice_holds : Rows.WalTwiceSaid := walTwice.over
#print axioms walTwice_holds
end Go.Proofs.Ytaaplakahkgclaa
