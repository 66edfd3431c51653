/- The row of the law WalAtomic: it returns true, and its arguments read as they did, for every input. -/
import Derived.Test.YtaaplakahkgclaaRows
import Derived.Test.YtaaplakahkgclaaLWalAtomic
import Derived.Test.YtaaplakahkgclaaSLw
import Derived.WalkKit
import Derived.ProofKit
import Derived.OpenShut
import Derived.ShutString
import Derived.ChangeOld
import Derived.Below
import Derived.SizedLaws
namespace Go.Proofs.Ytaaplakahkgclaa.walAtomic
open Go.ChangeShapes Go.WideShapes Go.ChangeAt Go.RowKit Go.Proofs.Ytaaplakahkgclaa.SL Go.Proofs.Ytaaplakahkgclaa.SL.W Go.Proofs.Ytaaplakahkgclaa.SL.D Go.Proofs.Ytaaplakahkgclaa.LWalAtomic
open Go.ChangeMaps (open_string shut_string)
set_option linter.unusedVariables false
theorem own : ownKnob Try.prog.godebug = none := by kernel_rfl
theorem laidOut : laidOutB Try.prog = true := by kernel_rfl
set_option maxRecDepth 100000 in
theorem lifted (os : Os) (started : os.Started) (H : Type) (enc : TypeId × Value → H) :
    ReturnsInHanded {} Try.checked os 4 .any (Rows.walAtomicSpec.pre6 enc Try.prog Try.f4 Rows.walAtomicRow.domain false) (Rows.walAtomicSpec.post enc Try.prog Try.f4 false true false false) := by
  refine returnsInHanded_of_change_sized (C := Try.checked) own started (by kernel_rfl) Try.func4
    (ChangeSpec.witness6 (enc := enc) (C := Try.checked) false ⟨#[], #[.slice none 0 0], []⟩ 8 (by kernel_rfl) (by kernel_rfl) (by kernel_rfl) (by kernel_rfl)) ?_
  intro W base args ds gs before hval0 hW hcnd hsz0 _
  have hsz : (DataW.weightsEach Try.prog (Try.f4.params.toList ++ Rows.walAtomicSpec.plain.varTypes Try.prog) (ds ++ gs)).all (· ≤ reachBytes) = true := hsz0
  have hval : ∀ (j : Nat) t v, Try.f4.params[j]? = some t → args[j]? = some v → Value.okWide Try.prog W .any base t v := hval0
  have hW' := hW
  obtain ⟨p, q, hA0, hV, rfl, hfz, hnd⟩ := hW
  have hA : DataW.TrodAll enc Try.prog W 0 (fun _ => true) true Try.f4.params.toList args.toList ds p := hA0
  rw [Try.params4] at hA hval hsz
  obtain ⟨v0, vs0, d0, ds0, p0, q0, hargs, rfl, rfl, h0, r0⟩ := trodAll_cons hA
  obtain ⟨rfl, rfl, rfl⟩ := trodAll_nil r0
  obtain rfl : args = #[v0] := by cases args; simp_all
  obtain ⟨rfl, rfl⟩ := trodVars_none hV
  obtain ⟨a0, len0, cap0, rfl⟩ := okWide_slice Try.underlying42 (hval 0 42 v0 rfl rfl)
  have k0 := h0
  have lt0 : ∀ x ∈ p0, x.block < W.heap.size := by obtain ⟨m, hm⟩ := k0; exact DataW.trod_lt m _ _ _ hm
  have ww0 : ∀ n ∈ DataW.weights Try.prog 42 d0, n ≤ reachBytes := fun n hn => by have := List.all_eq_true.1 hsz n (DataW.weights_mem_each (j := 0) rfl rfl n hn); simpa using this
  obtain ⟨a0, len0, cap0, x0, e0, hx0, hlc0, y0, ok0, hc0, hB0, hY0, hK0, hQ0⟩ : ∃ (a : Option Addr) (len cap : Nat) (rs : List Go.Proofs.Ytaaplakahkgclaa.SL.Tr), (a0 = a ∧ len0 = len ∧ cap0 = cap) ∧ rs.length = len ∧ len ≤ cap ∧ len * 112 ≤ 140737488351232 ∧ Go.Proofs.Ytaaplakahkgclaa.SL.TxOK rs ∧ Go.Proofs.Ytaaplakahkgclaa.SL.Seen W a (Go.Proofs.Ytaaplakahkgclaa.SL.txV rs) ∧ (∀ r ∈ Go.Proofs.Ytaaplakahkgclaa.SL.txB rs, Go.Proofs.Ytaaplakahkgclaa.SL.Seen W r.1 r.2) ∧ (∀ r ∈ Go.Proofs.Ytaaplakahkgclaa.SL.txY rs, Go.Proofs.Ytaaplakahkgclaa.SL.Seen W r.1 r.2) ∧ (∀ r ∈ Go.Proofs.Ytaaplakahkgclaa.SL.txK rs, Go.Proofs.Ytaaplakahkgclaa.SL.Seen W r.1 r.2) ∧ (∀ r ∈ Go.Proofs.Ytaaplakahkgclaa.SL.txQ rs, Go.Proofs.Ytaaplakahkgclaa.SL.Seen W r.1 r.2) := by
    obtain ⟨fuel, hf⟩ := h0
    obtain ⟨a, len, cap, rs, hcs, r⟩ := openw_tx Try.underlying42 (by kernel_rfl) (by kernel_rfl) Try.underlying26 rfl Try.underlying22 Try.underlying3 (by kernel_rfl) Try.underlying23 Try.underlying5 (by kernel_rfl) Try.underlying3 Try.underlying24 Try.underlying4 (by kernel_rfl) Try.underlying3 Try.underlying24 Try.underlying4 (by kernel_rfl) (by kernel_rfl) (by kernel_rfl) fuel _ _ hf ww0
    simp [Value.cells] at hcs
    exact ⟨a, len, cap, rs, hcs, r⟩
  obtain ⟨rfl, rfl, rfl⟩ := e0
  clear hA0 hval0 hsz0 hsz
  refine (CallsS.law (wl_WalAtomic_spec a0 cap0 x0 len0 (by first | assumption | omega) (by first | assumption | omega) (by first | assumption | omega) (by first | assumption | omega)) ((((((SAT.start W).argsL (Go.Proofs.Ytaaplakahkgclaa.SL.txQ x0) hQ0).argsL (Go.Proofs.Ytaaplakahkgclaa.SL.txK x0) hK0).argsL (Go.Proofs.Ytaaplakahkgclaa.SL.txY x0) hY0).argsL (Go.Proofs.Ytaaplakahkgclaa.SL.txB x0) hB0).arg a0 (Go.Proofs.Ytaaplakahkgclaa.SL.txV x0) hc0)).mono fun e W' ⟨he, bel⟩ => ?_
  subst he
  exact ⟨_, rfl, _, _, _, [], _, [], hW', trodAll_mk1 (shut_bool Try.underlying4 _), (trodAll_cons_mk (Below.trod laidOut (by kernel_rfl) (of_decide_eq_true (by kernel_rfl)) k0 bel lt0) trodAll_mk0), rfl, bel.frame _, fun h => by cases h⟩
theorem over : Rows.walAtomicRow.holds Try.pinned (OpenSpec.ofChange Rows.walAtomicSpec) :=
  OpenClaim.holds_of_wide 4 Try.f4 rfl rfl rfl rfl rfl rfl rfl ⟨rfl, rfl, rfl, rfl, rfl⟩ rfl rfl rfl rfl rfl (by kernel_rfl) Try.func4 (by kernel_rfl)
    (of_decide_eq_true (by kernel_rfl)) (by unfold Func.isWrapper; first | (rw [if_pos (by decide +kernel)]; kernel_rfl) | (rw [if_neg (by decide +kernel)]; exact ⟨rfl, rfl⟩))
    (fun os started H enc _ => lifted os started H enc)
end Go.Proofs.Ytaaplakahkgclaa.walAtomic
namespace Go.Proofs.Ytaaplakahkgclaa
/-- The law WalAtomic holds of the given program: for every input it returns true, and its arguments read as they did. -/
theorem walAtomic_holds : Rows.WalAtomicSaid := walAtomic.over
#print axioms walAtomic_holds
end Go.Proofs.Ytaaplakahkgclaa
