/- The row of the law FieldChains: it returns true, and its arguments read as they did, for every input. -/
import Derived.Test.YtbnjcfhnbjaoiaaRows
import Derived.Test.YtbnjcfhnbjaoiaaLFieldChains
import Derived.Test.YtbnjcfhnbjaoiaaSLz
import Derived.Test.YtbnjcfhnbjaoiaaSLs
import Derived.WalkKit
import Derived.ProofKit
import Derived.OpenShut
import Derived.ShutString
import Derived.ChangeOld
import Derived.Below
import Derived.SizedLaws
namespace Go.Proofs.Ytbnjcfhnbjaoiaa.fieldChains
open Go.ChangeShapes Go.WideShapes Go.ChangeAt Go.RowKit Go.Proofs.Ytbnjcfhnbjaoiaa.SL Go.Proofs.Ytbnjcfhnbjaoiaa.SL.W Go.Proofs.Ytbnjcfhnbjaoiaa.SL.F Go.Proofs.Ytbnjcfhnbjaoiaa.SL.N Go.Proofs.Ytbnjcfhnbjaoiaa.SL.E Go.Proofs.Ytbnjcfhnbjaoiaa.LFieldChains
open Go.ChangeMaps (open_string shut_string)
set_option linter.unusedVariables false
theorem own : ownKnob Try.prog.godebug = none := by kernel_rfl
theorem laidOut : laidOutB Try.prog = true := by kernel_rfl
set_option maxRecDepth 100000 in
theorem lifted (os : Os) (started : os.Started) (H : Type) (enc : TypeId × Value → H) :
    ReturnsInHanded {} Try.checked os 12 .any (Rows.fieldChainsSpec.pre6 enc Try.prog Try.f12 Rows.fieldChainsRow.domain false) (Rows.fieldChainsSpec.post enc Try.prog Try.f12 false true false false) := by
  refine returnsInHanded_of_change_sized (C := Try.checked) own started (by kernel_rfl) Try.func12
    (ChangeSpec.witness6 (enc := enc) (C := Try.checked) false ⟨#[], #[.agg #[.int .u8 0, .int .u8 0, .int .u8 0, .int .u8 0, .int .u8 0, .int .u8 0, .int .u8 0, .int .u8 0, .int .u8 0, .int .u8 0, .int .u8 0, .int .u8 0, .int .u8 0, .int .u8 0, .int .u8 0, .int .u8 0, .int .u8 0, .int .u8 0, .int .u8 0, .int .u8 0, .int .u8 0, .int .u8 0, .int .u8 0, .int .u8 0, .int .u8 0, .int .u8 0, .int .u8 0, .int .u8 0, .int .u8 0, .int .u8 0, .int .u8 0, .int .u8 0], .agg #[.int .u8 0, .int .u8 0, .int .u8 0, .int .u8 0, .int .u8 0, .int .u8 0, .int .u8 0, .int .u8 0, .int .u8 0, .int .u8 0, .int .u8 0, .int .u8 0, .int .u8 0, .int .u8 0, .int .u8 0, .int .u8 0, .int .u8 0, .int .u8 0, .int .u8 0, .int .u8 0, .int .u8 0, .int .u8 0, .int .u8 0, .int .u8 0, .int .u8 0, .int .u8 0, .int .u8 0, .int .u8 0, .int .u8 0, .int .u8 0, .int .u8 0, .int .u8 0], .slice none 0 0], []⟩ 8 (by kernel_rfl) (by kernel_rfl) (by kernel_rfl) (by kernel_rfl)) ?_
  intro W base args ds gs before hval0 hW hcnd hsz0 _
  have hsz : (DataW.weightsEach Try.prog (Try.f12.params.toList ++ Rows.fieldChainsSpec.plain.varTypes Try.prog) (ds ++ gs)).all (· ≤ reachBytes) = true := hsz0
  have hval : ∀ (j : Nat) t v, Try.f12.params[j]? = some t → args[j]? = some v → Value.okWide Try.prog W .any base t v := hval0
  have hW' := hW
  obtain ⟨p, q, hA0, hV, rfl, hfz, hnd⟩ := hW
  have hA : DataW.TrodAll enc Try.prog W 0 (fun _ => true) true Try.f12.params.toList args.toList ds p := hA0
  rw [Try.params12] at hA hval hsz
  obtain ⟨v0, vs0, d0, ds0, p0, q0, hargs, rfl, rfl, h0, r0⟩ := trodAll_cons hA
  obtain ⟨v1, vs1, d1, ds1, p1, q1, rfl, rfl, rfl, h1, r1⟩ := trodAll_cons r0
  obtain ⟨v2, vs2, d2, ds2, p2, q2, rfl, rfl, rfl, h2, r2⟩ := trodAll_cons r1
  obtain ⟨rfl, rfl, rfl⟩ := trodAll_nil r2
  obtain rfl : args = #[v0, v1, v2] := by cases args; simp_all
  obtain ⟨rfl, rfl⟩ := trodVars_none hV
  have k0 := h0
  have lt0 : ∀ x ∈ p0, x.block < W.heap.size := by obtain ⟨m, hm⟩ := k0; exact DataW.trod_lt m _ _ _ hm
  obtain ⟨x0, hv0, hx0, hi0⟩ := arr_nums Try.underlying48 Try.underlying5 (by kernel_rfl) (by kernel_rfl) (hval 0 48 v0 rfl rfl) h0
  subst hv0
  have k1 := h1
  have lt1 : ∀ x ∈ p1, x.block < W.heap.size := by obtain ⟨m, hm⟩ := k1; exact DataW.trod_lt m _ _ _ hm
  obtain ⟨x1, hv1, hx1, hi1⟩ := arr_nums Try.underlying48 Try.underlying5 (by kernel_rfl) (by kernel_rfl) (hval 1 48 v1 rfl rfl) h1
  subst hv1
  obtain ⟨a2, len2, cap2, rfl⟩ := okWide_slice Try.underlying63 (hval 2 63 v2 rfl rfl)
  have k2 := h2
  have lt2 : ∀ x ∈ p2, x.block < W.heap.size := by obtain ⟨m, hm⟩ := k2; exact DataW.trod_lt m _ _ _ hm
  have ww2 : ∀ n ∈ DataW.weights Try.prog 63 d2, n ≤ reachBytes := fun n hn => by have := List.all_eq_true.1 hsz n (DataW.weights_mem_each (j := 2) rfl rfl n hn); simpa using this
  obtain ⟨a2, len2, cap2, x2, e2, hx2, hlc2, y2, ok2, hc2⟩ : ∃ (a : Option Addr) (len cap : Nat) (rs : List Go.Proofs.Ytbnjcfhnbjaoiaa.SL.Db), (a2 = a ∧ len2 = len ∧ cap2 = cap) ∧ rs.length = len ∧ len ≤ cap ∧ len * 2 ≤ 140737488351232 ∧ Go.Proofs.Ytbnjcfhnbjaoiaa.SL.DosOK rs ∧ Go.Proofs.Ytbnjcfhnbjaoiaa.SL.ToldD W a rs := by
    obtain ⟨fuel, hf⟩ := h2
    obtain ⟨a, len, cap, rs, hcs, r⟩ := openw_dos Try.underlying63 (by kernel_rfl) (by kernel_rfl) Try.underlying65 rfl Try.underlying5 Try.underlying4 (by kernel_rfl) (by kernel_rfl) fuel _ _ hf ww2
    simp [Value.cells] at hcs
    exact ⟨a, len, cap, rs, hcs, r⟩
  obtain ⟨rfl, rfl, rfl⟩ := e2
  clear hA0 hval0 hsz0 hsz
  refine (CallsS.law (l7_FieldChains_spec x0 x1 a2 cap2 x2 len2 (by first | assumption | omega) (by first | assumption | omega) (by first | assumption | omega) (by first | assumption | omega) (by first | assumption | omega) (by first | assumption | omega) (by first | assumption | omega) (by first | assumption | omega)) ((SAT.start W).arg a2 (dosV x2) hc2)).mono fun e W' ⟨he, bel⟩ => ?_
  subst he
  exact ⟨_, rfl, _, _, _, [], _, [], hW', trodAll_mk1 (shut_bool Try.underlying4 _), (trodAll_cons_mk (Below.trod laidOut (by kernel_rfl) (of_decide_eq_true (by kernel_rfl)) k0 bel lt0) (trodAll_cons_mk (Below.trod laidOut (by kernel_rfl) (of_decide_eq_true (by kernel_rfl)) k1 bel lt1) (trodAll_cons_mk (Below.trod laidOut (by kernel_rfl) (of_decide_eq_true (by kernel_rfl)) k2 bel lt2) trodAll_mk0))), rfl, bel.frame _, fun h => by cases h⟩
theorem over : Rows.fieldChainsRow.holds Try.pinned (OpenSpec.ofChange Rows.fieldChainsSpec) :=
  OpenClaim.holds_of_wide 12 Try.f12 rfl rfl rfl rfl rfl rfl rfl ⟨rfl, rfl, rfl, rfl, rfl⟩ rfl rfl rfl rfl rfl (by kernel_rfl) Try.func12 (by kernel_rfl)
    (of_decide_eq_true (by kernel_rfl)) (by unfold Func.isWrapper; first | (rw [if_pos (by decide +kernel)]; kernel_rfl) | (rw [if_neg (by decide +kernel)]; exact ⟨rfl, rfl⟩))
    (fun os started H enc _ => lifted os started H enc)
end Go.Proofs.Ytbnjcfhnbjaoiaa.fieldChains
namespace Go.Proofs.Ytbnjcfhnbjaoiaa
/-- The law FieldChains holds of the given program: for every input it returns true, and its arguments read as they did. -/
theorem fieldChains_holds : Rows.FieldChainsSaid := fieldChains.over
#print axioms fieldChains_holds
end Go.Proofs.Ytbnjcfhnbjaoiaa
