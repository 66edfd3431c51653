/- The row of the law DiskPlays: it returns true, and its arguments read as they did, for every input. -/
import Derived.Test.YtcpohiegijpghaaRows
import Derived.Test.YtcpohiegijpghaaLDiskPlays
import Derived.Test.YtcpohiegijpghaaSLw
import Derived.WalkKit
import Derived.ProofKit
import Derived.OpenShut
import Derived.ShutString
import Derived.ChangeOld
import Derived.Below
import Derived.SizedLaws
namespace Go.Proofs.Ytcpohiegijpghaa.diskPlays
open Go.ChangeShapes Go.WideShapes Go.ChangeAt Go.RowKit Go.Proofs.Ytcpohiegijpghaa.SL Go.Proofs.Ytcpohiegijpghaa.SL.W Go.Proofs.Ytcpohiegijpghaa.SL.D Go.Proofs.Ytcpohiegijpghaa.LDiskPlays
open Go.ChangeMaps (open_string shut_string)
set_option linter.unusedVariables false
theorem own : ownKnob Try.prog.godebug = none := by kernel_rfl
theorem laidOut : laidOutB Try.prog = true := by kernel_rfl
set_option maxRecDepth 100000 in
theorem lifted (os : Os) (started : os.Started) (H : Type) (enc : TypeId × Value → H) :
    ReturnsInHanded {} Try.checked os 12 .any (Rows.diskPlaysSpec.pre6 enc Try.prog Try.f12 Rows.diskPlaysRow.domain false) (Rows.diskPlaysSpec.post enc Try.prog Try.f12 false true false false) := by
  refine returnsInHanded_of_change_sized (C := Try.checked) own started (by kernel_rfl) Try.func12
    (ChangeSpec.witness6 (enc := enc) (C := Try.checked) false ⟨#[], #[.slice none 0 0, .slice none 0 0], []⟩ 8 (by kernel_rfl) (by kernel_rfl) (by kernel_rfl) (by kernel_rfl)) ?_
  intro W base args ds gs before hval0 hW hcnd hsz0 _
  have hsz : (DataW.weightsEach Try.prog (Try.f12.params.toList ++ Rows.diskPlaysSpec.plain.varTypes Try.prog) (ds ++ gs)).all (· ≤ reachBytes) = true := hsz0
  have hval : ∀ (j : Nat) t v, Try.f12.params[j]? = some t → args[j]? = some v → Value.okWide Try.prog W .any base t v := hval0
  have hW' := hW
  obtain ⟨p, q, hA0, hV, rfl, hfz, hnd⟩ := hW
  have hA : DataW.TrodAll enc Try.prog W 0 (fun _ => true) true Try.f12.params.toList args.toList ds p := hA0
  rw [Try.params12] at hA hval hsz
  obtain ⟨v0, vs0, d0, ds0, p0, q0, hargs, rfl, rfl, h0, r0⟩ := trodAll_cons hA
  obtain ⟨v1, vs1, d1, ds1, p1, q1, rfl, rfl, rfl, h1, r1⟩ := trodAll_cons r0
  obtain ⟨rfl, rfl, rfl⟩ := trodAll_nil r1
  obtain rfl : args = #[v0, v1] := by cases args; simp_all
  obtain ⟨rfl, rfl⟩ := trodVars_none hV
  obtain ⟨a0, len0, cap0, rfl⟩ := okWide_slice Try.underlying22 (hval 0 22 v0 rfl rfl)
  have k0 := h0
  have lt0 : ∀ x ∈ p0, x.block < W.heap.size := by obtain ⟨m, hm⟩ := k0; exact DataW.trod_lt m _ _ _ hm
  obtain ⟨z0, w0⟩ : ∃ zs, IsRow .u8 W a0 len0 cap0 zs := by
    obtain ⟨fuel, hf⟩ := h0
    rcases open_ints Try.underlying22 Try.underlying5 (by kernel_rfl) hf with ⟨hcs, _⟩ | ⟨x, l, c, zs, hcs, _, hl, hm, hz, _, hcell, hwz⟩
    · simp [Value.cells] at hcs
      obtain ⟨rfl, rfl, rfl⟩ := hcs
      exact ⟨[], .inl ⟨rfl, rfl, rfl, rfl⟩⟩
    · simp [Value.cells] at hcs
      obtain ⟨rfl, rfl, rfl⟩ := hcs
      exact ⟨zs, .inr ⟨_, rfl, hl, hm, by simpa using hz, hcell, hwz⟩⟩
  have y0 : len0 * 1 ≤ 140737488351232 := row_bound hsz (j := 0) (t := 22) rfl rfl Try.underlying22 Try.underlying5 (by kernel_rfl) (by kernel_rfl) h0
  obtain ⟨x0, hx0, hlc0, hi0, hc0⟩ := w0.use
  obtain ⟨a1, len1, cap1, rfl⟩ := okWide_slice Try.underlying65 (hval 1 65 v1 rfl rfl)
  have k1 := h1
  have lt1 : ∀ x ∈ p1, x.block < W.heap.size := by obtain ⟨m, hm⟩ := k1; exact DataW.trod_lt m _ _ _ hm
  have ww1 : ∀ n ∈ DataW.weights Try.prog 65 d1, n ≤ reachBytes := fun n hn => by have := List.all_eq_true.1 hsz n (DataW.weights_mem_each (j := 1) rfl rfl n hn); simpa using this
  obtain ⟨a1, len1, cap1, x1, e1, hx1, hlc1, y1, ok1, hc1, hl1, hb1⟩ : ∃ (a : Option Addr) (len cap : Nat) (rs : List Go.Proofs.Ytcpohiegijpghaa.SL.Sd), (a1 = a ∧ len1 = len ∧ cap1 = cap) ∧ rs.length = len ∧ len ≤ cap ∧ len * 64 ≤ 140737488351232 ∧ Go.Proofs.Ytcpohiegijpghaa.SL.DoOK rs ∧ Go.Proofs.Ytcpohiegijpghaa.SL.Seen W a (Go.Proofs.Ytcpohiegijpghaa.SL.doV rs) ∧ (∀ r ∈ Go.Proofs.Ytcpohiegijpghaa.SL.doL rs, Go.Proofs.Ytcpohiegijpghaa.SL.Seen W r.1 r.2) ∧ (∀ r ∈ Go.Proofs.Ytcpohiegijpghaa.SL.doB rs, Go.Proofs.Ytcpohiegijpghaa.SL.Seen W r.1 r.2) := by
    obtain ⟨fuel, hf⟩ := h1
    obtain ⟨a, len, cap, rs, hcs, r⟩ := openw_do Try.underlying65 (by kernel_rfl) (by kernel_rfl) Try.underlying68 rfl Try.underlying3 Try.underlying3 Try.underlying22 Try.underlying5 (by kernel_rfl) Try.underlying52 Try.underlying4 (by kernel_rfl) (by kernel_rfl) (by kernel_rfl) fuel _ _ hf ww1
    simp [Value.cells] at hcs
    exact ⟨a, len, cap, rs, hcs, r⟩
  obtain ⟨rfl, rfl, rfl⟩ := e1
  clear hA0 hval0 hsz0 hsz
  refine (CallsS.law (l9_DiskPlays_spec a0 cap0 x0 a1 cap1 x1 len0 len1 (by first | assumption | omega) (by first | assumption | omega) (by first | assumption | omega) (by first | assumption | omega) (by first | assumption | omega) (by first | assumption | omega) (by first | assumption | omega) (by first | assumption | omega)) (((((SAT.start W).argsL (Go.Proofs.Ytcpohiegijpghaa.SL.doB x1) hb1).argsL (Go.Proofs.Ytcpohiegijpghaa.SL.doL x1) hl1).arg a1 (Go.Proofs.Ytcpohiegijpghaa.SL.doV x1) hc1).arg a0 (nums .u8 x0) hc0)).mono fun e W' ⟨he, bel⟩ => ?_
  subst he
  exact ⟨_, rfl, _, _, _, [], _, [], hW', trodAll_mk1 (shut_bool Try.underlying4 _), (trodAll_cons_mk (Below.trod laidOut (by kernel_rfl) (of_decide_eq_true (by kernel_rfl)) k0 bel lt0) (trodAll_cons_mk (Below.trod laidOut (by kernel_rfl) (of_decide_eq_true (by kernel_rfl)) k1 bel lt1) trodAll_mk0)), rfl, bel.frame _, fun h => by cases h⟩
theorem over : Rows.diskPlaysRow.holds Try.pinned (OpenSpec.ofChange Rows.diskPlaysSpec) :=
  OpenClaim.holds_of_wide 12 Try.f12 rfl rfl rfl rfl rfl rfl rfl ⟨rfl, rfl, rfl, rfl, rfl⟩ rfl rfl rfl rfl rfl (by kernel_rfl) Try.func12 (by kernel_rfl)
    (of_decide_eq_true (by kernel_rfl)) (by unfold Func.isWrapper; first | (rw [if_pos (by decide +kernel)]; kernel_rfl) | (rw [if_neg (by decide +kernel)]; exact ⟨rfl, rfl⟩))
    (fun os started H enc _ => lifted os started H enc)
end Go.Proofs.Ytcpohiegijpghaa.diskPlays
namespace Go.Proofs.Ytcpohiegijpghaa
/-- The law DiskPlays holds of the given program: for every input it returns true, and its arguments read as they did. -/
theorem diskPlays_holds : Rows.DiskPlaysSaid := diskPlays.over
#print axioms diskPlays_holds
end Go.Proofs.Ytcpohiegijpghaa
