import Derived.Test.YtlibhidhfbecbaaOnePure
import Derived.Test.YtlibhidhfbecbaaProg
import Derived.Test.YtlibhidhfbecbaaY7
namespace Go.Proofs.Ytlibhidhfbecbaa.LFileOne
open Go Go.Proofs.Ytlibhidhfbecbaa.SL Go.Proofs.Ytlibhidhfbecbaa.SL.W Go.Proofs.Ytlibhidhfbecbaa.SL.D Go.Proofs.Ytlibhidhfbecbaa.SL.I Go.Proofs.Ytlibhidhfbecbaa.XT
set_option linter.unusedVariables false
set_option linter.unusedSimpArgs false
set_option maxRecDepth 100000
set_option maxHeartbeats 40000000
theorem fl_Gr_spec (n : Int) (l : 1 ≤ n) (hn : n ≤ 1000000) :
 CallsS Try.prog 75 [ς0, ι n] [] (fun r D => ∃ (f : Option Addr) (g : Nat), r = ς f 0 g ∧ D = [row 22 1 (ς f 0 g) 0 (rowsV ([] : List Ro))]) := by
 refine CallsS.enter hU Try.f75 _ [.tmp 4] 27 Try.func75 rfl (by decide) rfl rfl (by kernel_rfl) fun k W => ?_
 refine RunC.sr ?_
 refine RunR.sl hU [] 1 1 [0, 1, 4] [(0, ς0), (1, ι n), (4, ς0)] 1 ?_
 refine RunR.nn ?_
 refine RunC.seq ?_
 refine RunC.sr ?_
 refine RunR.sl hU [] 2 2 [0, 1, 4, 6] [(0, ς0), (1, ι n), (4, ς0), (6, η (decide (n < 0)))] 2 ?_
 refine RunR.ev [0, 1, 4, 6] [(0, ς0), (1, ι n), (4, ς0), (6, η (decide (n < 0)))] ?_
 have e : ¬ (n < 0) := by omega
 refine RunR.enveq [(0, ς0), (1, ι n), (4, ς0), (6, η false)] (by rw [decide_eq_false e]; try rfl) ?_
 refine RunR.nn ?_
 refine RunC.cond (b := false) (by kernel_rfl) (fun h => by cases h) (fun _ => ?_)
 refine RunC.ks ?_
 refine RunC.seq ?_
 refine RunC.sr ?_
 refine RunR.sl hU [] 2 2 [0, 1, 4, 8, 9] [(0, ς0), (1, ι n), (4, ς0), (8, ι n), (9, ς0)] 2 ?_
 refine RunR.st (some 10) (.call { callee := .builtin .cap, args := #[.tmp 9], argTypes := #[106] }) (Step.cap hU 22 none 0 0 (by kernel_rfl) (by kernel_rfl) (by kernel_rfl) ?_)
 refine RunR.ev [0, 1, 4, 8, 9, 10] [(0, ς0), (1, ι n), (4, ς0), (8, ι n), (9, ς0), (10, ι 0)] ?_
 refine RunR.sil hU [5, 6] 5 8 [0, 1, 4] [(0, ς0), (1, ι (n - 0)), (4, ς0)] ((True) ∧ (True) ∧ (-9223372036854775808 ≤ ((0 : Int) - 0) ∧ ((0 : Int) - 0) < 9223372036854775808) ∧ (-9223372036854775808 ≤ (n - 0) ∧ (n - 0) < 9223372036854775808) ∧ (True) ∧ True) rfl (by kernel_rfl) ⟨trivial, trivial, (by decide), (by omega), trivial, trivial⟩ ?_
 refine RunR.nx ?_
 refine RunR.sl hU [] 2 2 [0, 1, 4, 16] [(0, ς0), (1, ι (n - 0)), (4, ς0), (16, η (decide ((n - 0) > 0)))] 2 ?_
 refine RunR.nn ?_
 refine RunC.condp ((n - 0) > 0) (by kernel_rfl) (fun j => ?_) (fun j => ?_)
 ·refine RunC.region ?_
  refine RunR.sl hU [] 2 2 [0, 1, 4, 17, 18] [(0, ς0), (1, ι (n - 0)), (4, ς0), (17, ς0), (18, ς0)] 2 ?_
  refine RunR.st (some 19) (.call { callee := .builtin .cap, args := #[.tmp 18], argTypes := #[106] }) (Step.cap hU 22 none 0 0 (by kernel_rfl) (by kernel_rfl) (by kernel_rfl) ?_)
  refine RunR.ev [0, 1, 4, 17, 18, 19] [(0, ς0), (1, ι (n - 0)), (4, ς0), (17, ς0), (18, ς0), (19, ι 0)] ?_
  refine RunR.sil hU [] 2 5 [0, 4, 20, 21] [(0, ς0), (4, ς0), (20, ς0), (21, ι (n - 0))] ((0 ≤ (0 : Int) ∧ (0 : Int) ≤ (0 : Int)) ∧ (True) ∧ True) rfl (by kernel_rfl) ⟨(by omega), trivial, trivial⟩ ?_
  refine RunR.st (some 22) (.call { callee := .builtin .append, args := #[.tmp 20, .tmp 21], argTypes := #[106, 3] }) (Step.append_nil_rows hU 22 24 .i64 .i64 (n - 0) (by kernel_rfl) (by kernel_rfl) (by kernel_rfl) (by kernel_rfl) (by kernel_rfl) (by omega) (by omega) (by decide) (by kernel_rfl) (fun a c d => ?_))
  have i : 0 < 1 → Option.isSome a = true := fun _ => d
  refine RunR.sil hU [] 4 10 [0, 4] [(0, ς a 0 c), (4, ς0)] ((True) ∧ (True) ∧ (0 ≤ (0 : Int) ∧ (0 : Int) ≤ (c : Int)) ∧ (True) ∧ True) rfl (by kernel_rfl) ⟨trivial, trivial, (by omega), trivial, trivial⟩ ?_
  refine RunR.nx ?_
  refine RunR.sl hU [] 2 2 [4] [(4, ς a 0 c)] 2 ?_
  refine RunR.nn ?_
  refine RunC.ret ?_
  refine kret_r [ς a 0 c] [0] [row 22 1 (ς a 0 c) 0 (rowsV ([] : List Ro))] ⟨rfl, trivial⟩ (by kernel_rfl) rfl ⟨a, c, rfl, rfl⟩
 refine RunC.ksr ?_
 refine RunR.sl hU [] 2 2 [4] [(4, ς0)] 2 ?_
 refine RunR.nn ?_
 refine RunC.ret ?_
 refine kret_rt ([row 22 1 (ς0) 0 (rowsV ([] : List Ro))]) (fun k W w hs => (hs).nil_row 22 1) [ς0] [0] [row 22 1 (ς0) 0 (rowsV ([] : List Ro))] ⟨rfl, trivial⟩ (by kernel_rfl) rfl ⟨none, 0, rfl, rfl⟩
theorem fl_Cc_spec (B : Option Addr) (d : Nat) (i : Option Addr) (a : Nat) (o : Nat) (xs : List Ro) (g : Option Addr) (c : Nat) (n : Nat) (ys : List Ro) (hx : xs.length = a) (hy : ys.length = c) (M : 1 ≤ a) (J : a ≤ 1000) (K : c ≤ 1000) :
 CallsS Try.prog 60 [ς B 2 d] [vw B [ς i a o, ς g c n], vw i (rowsV xs), vw g (rowsV ys)] (fun r D => ∃ (z : Option Addr) (s : Nat) (E : Nat) (zs : List Ro), r = ς z s E ∧ D = [row 22 1 (ς z s E) s (rowsV zs)] ∧ (zs = xs ++ ys) ∧ (s = a + c) ∧ (s ≤ E) ∧ (0 < s → Option.isSome z = true) ∧ (zs.length = s)) := by
 refine CallsS.enter hU Try.f60 _ [.tmp 2] 36 Try.func60 rfl (by decide) rfl rfl (by kernel_rfl) fun N W => ?_
 refine RunC.know (p := 0 < 2 → Option.isSome B = true) (fun _ _ w hs => vw_some hs 0 rfl (by (simp [nums_length]; done))) (fun q => ?_)
 refine RunC.know (p := 0 < xs.length → Option.isSome i = true) (fun _ _ w hs => vw_some hs 1 rfl (by simp [rowsV_len])) (fun L => ?_)
 refine RunC.know (p := 0 < ys.length → Option.isSome g = true) (fun _ _ w hs => vw_some hs 2 rfl (by simp [rowsV_len])) (fun I => ?_)
 refine RunC.sr ?_
 refine RunR.sl hU [] 1 1 [0, 2] [(0, ς B 2 d), (2, ς0)] 1 ?_
 refine RunR.nx ?_
 refine RunR.sl hU [] 1 1 [0, 2, 3] [(0, ς B 2 d), (2, ς0), (3, ι 0)] 1 ?_
 refine RunR.nn ?_
 refine RunC.seq ?_
 refine RunC.sr ?_
 refine RunR.sl hU [] 3 3 [0, 2, 3, 9, 10, 11] [(0, ς B 2 d), (2, ς0), (3, ι 0), (9, ς B 2 d), (10, ι 2), (11, ι 0)] 3 ?_
 refine RunR.nn ?_
 refine RunC.block ?_
 refine RunC.unroll 2 ?_
 refine RunC.sr ?_
 refine RunR.sl hU [] 1 1 [0, 2, 3, 9, 10, 11, 12] [(0, ς B 2 d), (2, ς0), (3, ι 0), (9, ς B 2 d), (10, ι 2), (11, ι 0), (12, η true)] 1 ?_
 refine RunR.nn ?_
 refine RunC.seq ?_
 refine RunC.cond (b := true) (by kernel_rfl) (fun _ => ?_) (fun h => by cases h)
 refine RunC.ks ?_
 refine RunC.seq ?_
 refine RunC.block ?_
 refine RunC.sr ?_
 refine RunR.sil hU [] 1 1 [0, 2, 3, 9, 10, 11, 13] [(0, ς B 2 d), (2, ς0), (3, ι 0), (9, ς B 2 d), (10, ι 2), (11, ι 0), (13, .pointer (elemAt B 0 1))] (((0 ≤ (0 : Int) ∧ (0 : Int) < (2 : Int)) ∧ Option.isSome B = true) ∧ True) rfl (by kernel_rfl) ⟨⟨by omega, q (by omega)⟩, trivial⟩ ?_
 refine RunR.st (some 14) (.load 106 (.tmp 13)) (Step.load_of hU 0 (vw B [ς i a o, ς g c n]) B 0 1 [ς i a o, ς g c n] (ς i a o) (by kernel_rfl) (by kernel_rfl) (tells_vw _ _) (by kernel_rfl) (by kernel_rfl) (by simp) ?_)
 refine RunR.sl hU [] 1 3 [0, 2, 3, 5, 9, 10, 11] [(0, ς B 2 d), (2, ς0), (3, ι 0), (5, ς i a o), (9, ς B 2 d), (10, ι 2), (11, ι 0)] 1 ?_
 refine RunR.nx ?_
 refine RunR.sil hU [3] 5 5 [0, 2, 3, 9, 10, 11] [(0, ς B 2 d), (2, ς0), (3, ι (0 + (a : Int))), (9, ς B 2 d), (10, ι 2), (11, ι 0)] ((True) ∧ (True) ∧ (True) ∧ (-9223372036854775808 ≤ (0 + (a : Int)) ∧ (0 + (a : Int)) < 9223372036854775808) ∧ (True) ∧ True) rfl (by kernel_rfl) ⟨trivial, trivial, trivial, (by omega), trivial, trivial⟩ ?_
 refine RunR.nx ?_
 refine RunR.sl hU [] 2 2 [0, 2, 3, 9, 10, 11, 20] [(0, ς B 2 d), (2, ς0), (3, ι (0 + (a : Int))), (9, ς B 2 d), (10, ι 2), (11, ι 0), (20, η (decide ((0 + (a : Int)) < 0)))] 2 ?_
 refine RunR.ev [0, 2, 3, 9, 10, 11, 20] [(0, ς B 2 d), (2, ς0), (3, ι (0 + (a : Int))), (9, ς B 2 d), (10, ι 2), (11, ι 0), (20, η (decide ((0 + (a : Int)) < 0)))] ?_
 have A : ¬ ((0 + (a : Int)) < 0) := by omega
 refine RunR.enveq [(0, ς B 2 d), (2, ς0), (3, ι (0 + (a : Int))), (9, ς B 2 d), (10, ι 2), (11, ι 0), (20, η false)] (by rw [decide_eq_false A]; try rfl) ?_
 refine RunR.nn ?_
 refine RunC.cond (b := false) (by kernel_rfl) (fun h => by cases h) (fun _ => ?_)
 refine RunC.skip ?_
 refine kblock_n ?_
 refine kseq_n ?_
 refine RunC.region ?_
 refine RunR.sil hU [0] 2 2 [0, 2, 3, 9, 10, 11] [(0, ς B 2 d), (2, ς0), (3, ι (0 + (a : Int))), (9, ς B 2 d), (10, ι 2), (11, ι 1)] ((-9223372036854775808 ≤ ((0 : Int) + 1) ∧ ((0 : Int) + 1) < 9223372036854775808) ∧ (True) ∧ True) rfl (by kernel_rfl) ⟨(by decide), trivial, trivial⟩ ?_
 refine RunR.dn ?_
 refine kround_n ?_
 refine RunC.sr ?_
 refine RunR.sl hU [] 1 1 [0, 2, 3, 9, 10, 11, 12] [(0, ς B 2 d), (2, ς0), (3, ι (0 + (a : Int))), (9, ς B 2 d), (10, ι 2), (11, ι 1), (12, η true)] 1 ?_
 refine RunR.nn ?_
 refine RunC.seq ?_
 refine RunC.cond (b := true) (by kernel_rfl) (fun _ => ?_) (fun h => by cases h)
 refine RunC.ks ?_
 refine RunC.seq ?_
 refine RunC.block ?_
 refine RunC.sr ?_
 refine RunR.sil hU [] 1 1 [0, 2, 3, 9, 10, 11, 13] [(0, ς B 2 d), (2, ς0), (3, ι (0 + (a : Int))), (9, ς B 2 d), (10, ι 2), (11, ι 1), (13, .pointer (elemAt B 1 1))] (((0 ≤ (1 : Int) ∧ (1 : Int) < (2 : Int)) ∧ Option.isSome B = true) ∧ True) rfl (by kernel_rfl) ⟨⟨by omega, q (by omega)⟩, trivial⟩ ?_
 refine RunR.st (some 14) (.load 106 (.tmp 13)) (Step.load_of hU 0 (vw B [ς i a o, ς g c n]) B 1 1 [ς i a o, ς g c n] (ς g c n) (by kernel_rfl) (by kernel_rfl) (tells_vw _ _) (by kernel_rfl) (by kernel_rfl) (by simp) ?_)
 refine RunR.sl hU [] 1 3 [0, 2, 3, 5, 9, 10, 11] [(0, ς B 2 d), (2, ς0), (3, ι (0 + (a : Int))), (5, ς g c n), (9, ς B 2 d), (10, ι 2), (11, ι 1)] 1 ?_
 refine RunR.nx ?_
 refine RunR.sil hU [3] 5 5 [0, 2, 3, 9, 10, 11] [(0, ς B 2 d), (2, ς0), (3, ι ((0 + (a : Int)) + (c : Int))), (9, ς B 2 d), (10, ι 2), (11, ι 1)] ((True) ∧ (True) ∧ (True) ∧ (-9223372036854775808 ≤ ((0 + (a : Int)) + (c : Int)) ∧ ((0 + (a : Int)) + (c : Int)) < 9223372036854775808) ∧ (True) ∧ True) rfl (by kernel_rfl) ⟨trivial, trivial, trivial, (by omega), trivial, trivial⟩ ?_
 refine RunR.nx ?_
 refine RunR.sl hU [] 2 2 [0, 2, 3, 9, 10, 11, 20] [(0, ς B 2 d), (2, ς0), (3, ι ((0 + (a : Int)) + (c : Int))), (9, ς B 2 d), (10, ι 2), (11, ι 1), (20, η (decide (((0 + (a : Int)) + (c : Int)) < 0)))] 2 ?_
 refine RunR.ev [0, 2, 3, 9, 10, 11, 20] [(0, ς B 2 d), (2, ς0), (3, ι ((0 + (a : Int)) + (c : Int))), (9, ς B 2 d), (10, ι 2), (11, ι 1), (20, η (decide (((0 + (a : Int)) + (c : Int)) < 0)))] ?_
 have C : ¬ (((0 + (a : Int)) + (c : Int)) < 0) := by omega
 refine RunR.enveq [(0, ς B 2 d), (2, ς0), (3, ι ((0 + (a : Int)) + (c : Int))), (9, ς B 2 d), (10, ι 2), (11, ι 1), (20, η false)] (by rw [decide_eq_false C]; try rfl) ?_
 refine RunR.nn ?_
 refine RunC.cond (b := false) (by kernel_rfl) (fun h => by cases h) (fun _ => ?_)
 refine RunC.skip ?_
 refine kblock_n ?_
 refine kseq_n ?_
 refine RunC.region ?_
 refine RunR.sil hU [0] 2 2 [0, 2, 3, 9, 10, 11] [(0, ς B 2 d), (2, ς0), (3, ι ((0 + (a : Int)) + (c : Int))), (9, ς B 2 d), (10, ι 2), (11, ι 2)] ((-9223372036854775808 ≤ ((1 : Int) + 1) ∧ ((1 : Int) + 1) < 9223372036854775808) ∧ (True) ∧ True) rfl (by kernel_rfl) ⟨(by decide), trivial, trivial⟩ ?_
 refine RunR.dn ?_
 refine kround_n ?_
 refine RunC.sr ?_
 refine RunR.sl hU [] 1 1 [0, 2, 3, 9, 10, 11, 12] [(0, ς B 2 d), (2, ς0), (3, ι ((0 + (a : Int)) + (c : Int))), (9, ς B 2 d), (10, ι 2), (11, ι 2), (12, η false)] 1 ?_
 refine RunR.nn ?_
 refine RunC.seq ?_
 refine RunC.cond (b := false) (by kernel_rfl) (fun h => by cases h) (fun _ => ?_)
 refine RunC.exit ?_
 refine kseq_e ?_
 refine kround_e ?_
 refine kblock_e ?_
 refine kseq_n ?_
 refine RunC.sr ?_
 refine RunR.sl hU [] 1 1 [0, 2, 23] [(0, ς B 2 d), (2, ς0), (23, ι ((0 + (a : Int)) + (c : Int)))] 1 ?_
 refine RunR.st (some 24) (.call { callee := .value (.func 75), args := #[.const (ς0), .tmp 23], argTypes := #[106, 3] }) (Step.cn 75 [ς0, ι ((0 + (a : Int)) + (c : Int))] [] [vw B [ς i a o, ς g c n], vw i (rowsV xs), vw g (rowsV ys)] (fl_Gr_spec ((0 + (a : Int)) + (c : Int)) (by omega) (by omega)) [] ?_)
 rintro _ _ ⟨m, l, rfl, rfl⟩
 refine RunR.sl hU [] 1 3 [0, 2, 6] [(0, ς B 2 d), (2, ς0), (6, ς m 0 l)] 1 ?_
 refine RunR.nn ?_
 refine RunC.seq ?_
 refine RunC.sr ?_
 refine RunR.sl hU [] 3 3 [2, 6, 25, 26, 27] [(2, ς0), (6, ς m 0 l), (25, ς B 2 d), (26, ι 2), (27, ι 0)] 3 ?_
 refine RunR.nn ?_
 refine RunC.block ?_
 refine RunC.unroll 2 ?_
 refine RunC.sr ?_
 refine RunR.sl hU [] 1 1 [2, 6, 25, 26, 27, 28] [(2, ς0), (6, ς m 0 l), (25, ς B 2 d), (26, ι 2), (27, ι 0), (28, η true)] 1 ?_
 refine RunR.nn ?_
 refine RunC.seq ?_
 refine RunC.cond (b := true) (by kernel_rfl) (fun _ => ?_) (fun h => by cases h)
 refine RunC.ks ?_
 refine RunC.seq ?_
 refine RunC.block ?_
 refine RunC.sr ?_
 refine RunR.sil hU [] 1 1 [2, 6, 25, 26, 27, 29] [(2, ς0), (6, ς m 0 l), (25, ς B 2 d), (26, ι 2), (27, ι 0), (29, .pointer (elemAt B 0 1))] (((0 ≤ (0 : Int) ∧ (0 : Int) < (2 : Int)) ∧ Option.isSome B = true) ∧ True) rfl (by kernel_rfl) ⟨⟨by omega, q (by omega)⟩, trivial⟩ ?_
 refine RunR.st (some 30) (.load 106 (.tmp 29)) (Step.load_of hU 1 (vw B [ς i a o, ς g c n]) B 0 1 [ς i a o, ς g c n] (ς i a o) (by kernel_rfl) (by kernel_rfl) (tells_vw _ _) (by kernel_rfl) (by kernel_rfl) (by simp) ?_)
 refine RunR.sl hU [] 1 3 [2, 6, 8, 25, 26, 27] [(2, ς0), (6, ς m 0 l), (8, ς i a o), (25, ς B 2 d), (26, ι 2), (27, ι 0)] 1 ?_
 refine RunR.nn ?_
 refine RunC.region ?_
 refine RunR.sl hU [] 2 2 [2, 6, 25, 26, 27, 31, 32] [(2, ς0), (6, ς m 0 l), (25, ς B 2 d), (26, ι 2), (27, ι 0), (31, ς m 0 l), (32, ς i a o)] 2 ?_
 refine RunR.st (some 33) (.call { callee := .builtin .append, args := #[.tmp 31, .tmp 32], argTypes := #[106, 106] }) (Step.append_rows hU 22 24 (ς0) 0 2 m 0 l ([] : List Ro) i a o (vw i (rowsV xs)) xs (by kernel_rfl) (by kernel_rfl) (by kernel_rfl) (by kernel_rfl) (by kernel_rfl) (by kernel_rfl) (by kernel_rfl) (tells_vw _ _) (by omega) (by rfl) (by (simp only [List.length_cons, List.length_nil]; omega)) (by (simp only [List.length_cons, List.length_nil]; omega)) (by kernel_rfl) (fun k j t v => ?_))
 have H : (([] : List Ro) ++ xs : List Ro).length ≤ j := t
 have F : 0 < (([] : List Ro) ++ xs : List Ro).length → Option.isSome k = true := v
 refine RunR.sl hU [] 1 4 [2, 6, 25, 26, 27] [(2, ς0), (6, ς k ((([] : List Ro) ++ xs : List Ro).length) j), (25, ς B 2 d), (26, ι 2), (27, ι 0)] 1 ?_
 refine RunR.dn ?_
 refine kblock_n ?_
 refine kseq_n ?_
 refine RunC.region ?_
 refine RunR.sil hU [0] 2 2 [2, 6, 25, 26, 27] [(2, ς0), (6, ς k ((([] : List Ro) ++ xs : List Ro).length) j), (25, ς B 2 d), (26, ι 2), (27, ι 1)] ((-9223372036854775808 ≤ ((0 : Int) + 1) ∧ ((0 : Int) + 1) < 9223372036854775808) ∧ (True) ∧ True) rfl (by kernel_rfl) ⟨(by decide), trivial, trivial⟩ ?_
 refine RunR.dn ?_
 refine kround_n ?_
 refine RunC.sr ?_
 refine RunR.sl hU [] 1 1 [2, 6, 25, 26, 27, 28] [(2, ς0), (6, ς k ((([] : List Ro) ++ xs : List Ro).length) j), (25, ς B 2 d), (26, ι 2), (27, ι 1), (28, η true)] 1 ?_
 refine RunR.nn ?_
 refine RunC.seq ?_
 refine RunC.cond (b := true) (by kernel_rfl) (fun _ => ?_) (fun h => by cases h)
 refine RunC.ks ?_
 refine RunC.seq ?_
 refine RunC.block ?_
 refine RunC.sr ?_
 refine RunR.sil hU [] 1 1 [2, 6, 25, 26, 27, 29] [(2, ς0), (6, ς k ((([] : List Ro) ++ xs : List Ro).length) j), (25, ς B 2 d), (26, ι 2), (27, ι 1), (29, .pointer (elemAt B 1 1))] (((0 ≤ (1 : Int) ∧ (1 : Int) < (2 : Int)) ∧ Option.isSome B = true) ∧ True) rfl (by kernel_rfl) ⟨⟨by omega, q (by omega)⟩, trivial⟩ ?_
 refine RunR.st (some 30) (.load 106 (.tmp 29)) (Step.load_of hU 1 (vw B [ς i a o, ς g c n]) B 1 1 [ς i a o, ς g c n] (ς g c n) (by kernel_rfl) (by kernel_rfl) (tells_vw _ _) (by kernel_rfl) (by kernel_rfl) (by simp) ?_)
 refine RunR.sl hU [] 1 3 [2, 6, 8, 25, 26, 27] [(2, ς0), (6, ς k ((([] : List Ro) ++ xs : List Ro).length) j), (8, ς g c n), (25, ς B 2 d), (26, ι 2), (27, ι 1)] 1 ?_
 refine RunR.nn ?_
 refine RunC.region ?_
 refine RunR.sl hU [] 2 2 [2, 6, 25, 26, 27, 31, 32] [(2, ς0), (6, ς k ((([] : List Ro) ++ xs : List Ro).length) j), (25, ς B 2 d), (26, ι 2), (27, ι 1), (31, ς k ((([] : List Ro) ++ xs : List Ro).length) j), (32, ς g c n)] 2 ?_
 refine RunR.st (some 33) (.call { callee := .builtin .append, args := #[.tmp 31, .tmp 32], argTypes := #[106, 106] }) (Step.append_rows hU 22 24 (ς0) 0 3 k ((([] : List Ro) ++ xs : List Ro).length) j (([] : List Ro) ++ xs) g c n (vw g (rowsV ys)) ys (by kernel_rfl) (by kernel_rfl) (by kernel_rfl) (by kernel_rfl) (by kernel_rfl) (by kernel_rfl) (by kernel_rfl) (tells_vw _ _) (by omega) (by rfl) (by (simp only [List.length_append, List.length_cons, List.length_nil]; omega)) (by (simp only [List.length_append, List.length_cons, List.length_nil]; omega)) (by kernel_rfl) (fun e f x u => ?_))
 have G : ((([] : List Ro) ++ xs) ++ ys : List Ro).length ≤ f := x
 have y : 0 < ((([] : List Ro) ++ xs) ++ ys : List Ro).length → Option.isSome e = true := u
 refine RunR.sl hU [] 1 4 [2, 6, 25, 26, 27] [(2, ς0), (6, ς e (((([] : List Ro) ++ xs) ++ ys : List Ro).length) f), (25, ς B 2 d), (26, ι 2), (27, ι 1)] 1 ?_
 refine RunR.dn ?_
 refine kblock_n ?_
 refine kseq_n ?_
 refine RunC.region ?_
 refine RunR.sil hU [0] 2 2 [2, 6, 25, 26, 27] [(2, ς0), (6, ς e (((([] : List Ro) ++ xs) ++ ys : List Ro).length) f), (25, ς B 2 d), (26, ι 2), (27, ι 2)] ((-9223372036854775808 ≤ ((1 : Int) + 1) ∧ ((1 : Int) + 1) < 9223372036854775808) ∧ (True) ∧ True) rfl (by kernel_rfl) ⟨(by decide), trivial, trivial⟩ ?_
 refine RunR.dn ?_
 refine kround_n ?_
 refine RunC.sr ?_
 refine RunR.sl hU [] 1 1 [2, 6, 25, 26, 27, 28] [(2, ς0), (6, ς e (((([] : List Ro) ++ xs) ++ ys : List Ro).length) f), (25, ς B 2 d), (26, ι 2), (27, ι 2), (28, η false)] 1 ?_
 refine RunR.nn ?_
 refine RunC.seq ?_
 refine RunC.cond (b := false) (by kernel_rfl) (fun h => by cases h) (fun _ => ?_)
 refine RunC.exit ?_
 refine kseq_e ?_
 refine kround_e ?_
 refine kblock_e ?_
 refine kseq_n ?_
 refine RunC.sr ?_
 refine RunR.sl hU [] 2 2 [2] [(2, ς e (((([] : List Ro) ++ xs) ++ ys : List Ro).length) f)] 2 ?_
 refine RunR.nn ?_
 refine RunC.ret ?_
 refine kret_r [ς e (((([] : List Ro) ++ xs) ++ ys : List Ro).length) f] [0] [row 22 1 (ς e (((([] : List Ro) ++ xs) ++ ys : List Ro).length) f) (((([] : List Ro) ++ xs) ++ ys : List Ro).length) (rowsV ((([] : List Ro) ++ xs) ++ ys))] ⟨rfl, trivial⟩ (by kernel_rfl) rfl ⟨e, (((([] : List Ro) ++ xs) ++ ys : List Ro).length), f, ((([] : List Ro) ++ xs) ++ ys), rfl, rfl, (by (simp; done)), (by (simp only [List.length_append, List.length_cons, List.length_nil, List.length_set, List.length_replicate, List.length_take, List.length_drop]; omega)), ‹_›, (fun h => y (by exact h)), (by rfl)⟩
theorem fl_changed_spec (ei : Nat) (fi : Nat) (me : Nat) (Fs : List Fe) (fc : Nat) (G : List Ro) (Na : Option Addr) (z : Nat) (y : List Int) (sl : List Bool) (Sa : Option Addr) (sn : Nat) (sc : Nat) (wj : Nat) (mv : Value) (NA : Option Addr) (L : Nat) (nc : Nat) (dd : Bool) (d : Nat) (A : Option Addr) (n : Nat) (c : Nat) (ss : List Int) (Wa : Option Addr) (m : Nat) (wc : Nat) (ws : List Ch) (lf : Int) (dn : Bool) (R : Nat) (hFe : FeOK Fs) (hFm : FMOK Fs fc) (hFi : FeIn Fs G) (hFd : FeD Fs) (l0 : In .i64 y) (R0 : Bnd 0 65536 y) (y0 : y.length ≤ 2048) (p0 : y.length ≤ z) (hss : In .u8 ss) (hnl : ss.length = n) (hnc : n ≤ c) (hAs : 0 < n → Option.isSome A = true) (S0 : n % 256 = 0) (hnb : n ≤ 557056) (hml : ws.length = m) (hmb : m ≤ 800000) (hok : ChOK .u8 ws) (hwk : WOK n ws) (hWs : 0 < m → Option.isSome Wa = true) (hnd : 19200 ≤ n) (S : y.length = R) :
 CallsS Try.prog 40 [pt ei] (blk ei 87 (([pt fi] : List Value) ++ (([.map (some me)] : List Value) ++ (([ς Na R z] : List Value) ++ (bls sl ++ ([ς Sa sn sc] : List Value))))) :: mpf me (Fs.map feM) fc :: rws .i64 G :: blk fi 51 [pt wj, mv, ς NA L nc, η dd] :: blk wj 71 [pt d] :: δ d A n c ss Wa m wc ws lf dn [ν .i64 Na y]) (fun r D => ∃ (La : Option Addr) (lm : Nat) (lc : Nat) (ls : List Ch) (es : List Fe), r = ς La lm lc ∧ D = (ξ La lm lc ls :: chd .u8 ls :: blk ei 87 (([pt fi] : List Value) ++ (([.map (some me)] : List Value) ++ (([ς Na R z] : List Value) ++ (bls sl ++ ([ς Sa sn sc] : List Value))))) :: mpf me (Fs.map feM) fc :: rws .i64 G :: blk fi 51 [pt wj, mv, ς NA L nc, η dd] :: blk wj 71 [pt d] :: δ d A n c ss Wa m wc ws lf dn []) ∧ (es.Perm Fs) ∧ (dat ls = chgL ss (dat ws) (dirS es ++ tabB y) (16 + (y.length + 127) / 128)) ∧ (ls.length = lm) ∧ (lm ≤ 32) ∧ (ChOK .u8 ls) ∧ (0 < lm → Option.isSome La = true) ∧ (lm ≤ lc)) := by
 subst S
 refine CallsS.enter hU Try.f40 _ [.tmp 2] 44 Try.func40 rfl (by decide) rfl rfl (by kernel_rfl) fun w0 W => ?_
 refine RunC.know (p := 0 < y.length → Option.isSome Na = true) (fun _ _ w hs => vw_some hs 9 rfl (by (simp [nums_length]; done))) (fun M0 => ?_)
 refine RunC.sr ?_
 refine RunR.sl hU [] 1 1 [0, 2] [(0, pt ei), (2, ς0)] 1 ?_
 refine RunR.nx ?_
 refine RunR.sl hU [] 1 1 [0, 2, 3] [(0, pt ei), (2, ς0), (3, ς0)] 1 ?_
 refine RunR.nn ?_
 refine RunC.seq ?_
 refine RunC.sr ?_
 refine RunR.sl hU [] 1 1 [0, 2, 3, 8] [(0, pt ei), (2, ς0), (3, ς0), (8, pt ei)] 1 ?_
 refine RunR.st (some 9) (.call { callee := .value (.func 61), args := #[.tmp 8], argTypes := #[52] }) (Step.cn 61 [pt ei] [blk ei 87 (([pt fi] : List Value) ++ (([.map (some me)] : List Value) ++ (([ς Na y.length z] : List Value) ++ (bls sl ++ ([ς Sa sn sc] : List Value))))), mpf me (Fs.map feM) fc, rws .i64 G] (blk fi 51 [pt wj, mv, ς NA L nc, η dd] :: blk wj 71 [pt d] :: δ d A n c ss Wa m wc ws lf dn [ν .i64 Na y]) (fl_dir_spec ei fi me Fs fc G Na z y.length sl Sa sn sc ‹_› ‹_› ‹_› ‹_›) [0, 0, 0] ?_)
 rintro _ _ ⟨o, g, s, B, m0, rfl, rfl, P0, j0, Q0, A0, D0, C0, t0⟩
 refine RunR.sl hU [] 1 3 [0, 2, 3, 9, 10] [(0, pt ei), (2, ς0), (3, ς0), (9, ς o g s), (10, pt ei)] 1 ?_
 refine RunR.st (some 11) (.call { callee := .value (.func 62), args := #[.tmp 10], argTypes := #[52] }) (Step.cl 62 [pt ei] [blk ei 87 (([pt fi] : List Value) ++ (([.map (some me)] : List Value) ++ (([ς Na y.length z] : List Value) ++ (bls sl ++ ([ς Sa sn sc] : List Value)))))] [ν .i64 Na y] (row 22 1 (ς o g s) g (rowsV B) :: rws .u8 B :: mpf me (Fs.map feM) fc :: rws .i64 G :: blk fi 51 [pt wj, mv, ς NA L nc, η dd] :: blk wj 71 [pt d] :: δ d A n c ss Wa m wc ws lf dn [ν .i64 Na y]) (fl_table_spec ei fi me Na z y sl Sa sn sc y.length l0 ‹_› (by omega) ‹_› (by rfl)) [2] ((Lend.nil _).tells 10 (ν .i64 Na y) Na (nums .i64 y) (by kernel_rfl) (tells_vw _ _)) ?_)
 rintro _ _ ⟨f, b, j, u, rfl, rfl, b0, E0, G0, K0, I0, o0⟩
 refine RunR.st (some 12) (.buildSlice 121 2 #[(0, .tmp 9), (1, .tmp 11)]) (Step.lit_rows hU 106 24 (ς0) [ς o g s, ς f b j] rfl rfl (by kernel_rfl) rfl rfl (by kernel_rfl) (fun C => ?_))
 refine RunR.st (some 13) (.call { callee := .value (.func 60), args := #[.tmp 12], argTypes := #[121] }) (Step.cl 60 [ς (ad C) 2 2] [] [vw (ad C) [ς o g s, ς f b j], vw o (rowsV B), vw f (rowsV u)] (row 106 1 (ς (ad C) 2 2) 2 [ς o g s, ς f b j] :: row 22 1 (ς f b j) b (rowsV u) :: rws .u8 u :: blk ei 87 (([pt fi] : List Value) ++ (([.map (some me)] : List Value) ++ (([ς Na y.length z] : List Value) ++ (bls sl ++ ([ς Sa sn sc] : List Value))))) :: row 22 1 (ς o g s) g (rowsV B) :: rws .u8 B :: mpf me (Fs.map feM) fc :: rws .i64 G :: blk fi 51 [pt wj, mv, ς NA L nc, η dd] :: blk wj 71 [pt d] :: δ d A n c ss Wa m wc ws lf dn [ν .i64 Na y]) (fl_Cc_spec (ad C) 2 o g s B f b j u ‹_› ‹_› (by omega) (by omega) (by omega)) [] ((((Lend.nil _).tells 1 (row 22 1 (ς f b j) b (rowsV u)) f (rowsV u) (by kernel_rfl) (tells_row _ _ _ _ _ _)).tells 4 (row 22 1 (ς o g s) g (rowsV B)) o (rowsV B) (by kernel_rfl) (tells_row _ _ _ _ _ _)).tells 0 (row 106 1 (ς (ad C) 2 2) 2 [ς o g s, ς f b j]) (ad C) [ς o g s, ς f b j] (by kernel_rfl) (tells_row _ _ _ _ _ _)) ?_)
 rintro _ _ ⟨e, a, k, l, rfl, rfl, O, z0, H0, a0, B0⟩
 refine RunR.turn ((rws .u8 l :: row 22 1 (ς e a k) a (rowsV l) :: row 106 1 (ς (ad C) 2 2) 2 [ς o g s, ς f b j] :: row 22 1 (ς f b j) b (rowsV u) :: blk ei 87 (([pt fi] : List Value) ++ (([.map (some me)] : List Value) ++ (([ς Na y.length z] : List Value) ++ (bls sl ++ ([ς Sa sn sc] : List Value))))) :: row 22 1 (ς o g s) g (rowsV B) :: mpf me (Fs.map feM) fc :: rws .i64 G :: blk fi 51 [pt wj, mv, ς NA L nc, η dd] :: blk wj 71 [pt d] :: δ d A n c ss Wa m wc ws lf dn [ν .i64 Na y])) (fun _ _ w hs => SAT.rwsJoinE O (hs.pulls2 [6, 3] ((rws .u8 B :: rws .u8 u :: row 22 1 (ς e a k) a (rowsV l) :: row 106 1 (ς (ad C) 2 2) 2 [ς o g s, ς f b j] :: row 22 1 (ς f b j) b (rowsV u) :: blk ei 87 (([pt fi] : List Value) ++ (([.map (some me)] : List Value) ++ (([ς Na y.length z] : List Value) ++ (bls sl ++ ([ς Sa sn sc] : List Value))))) :: row 22 1 (ς o g s) g (rowsV B) :: mpf me (Fs.map feM) fc :: rws .i64 G :: blk fi 51 [pt wj, mv, ς NA L nc, η dd] :: blk wj 71 [pt d] :: δ d A n c ss Wa m wc ws lf dn [ν .i64 Na y])) (by kernel_rfl))) ?_
 have e0 := joined_ok O ‹_› ‹_›
 refine RunR.sl hU [] 2 8 [0, 2, 3, 13, 14, 15] [(0, pt ei), (2, ς0), (3, ς0), (13, ς e a k), (14, ι (a : Int)), (15, ι 0)] 2 ?_
 refine RunR.nn ?_
 refine RunC.block ?_
 refine RunC.turn ((ξ none 0 0 ([] : List Ch) :: rws .u8 l :: row 22 1 (ς e a k) a (rowsV l) :: row 106 1 (ς (ad C) 2 2) 2 [ς o g s, ς f b j] :: row 22 1 (ς f b j) b (rowsV u) :: blk ei 87 (([pt fi] : List Value) ++ (([.map (some me)] : List Value) ++ (([ς Na y.length z] : List Value) ++ (bls sl ++ ([ς Sa sn sc] : List Value))))) :: row 22 1 (ς o g s) g (rowsV B) :: mpf me (Fs.map feM) fc :: rws .i64 G :: blk fi 51 [pt wj, mv, ς NA L nc, η dd] :: blk wj 71 [pt d] :: δ d A n c ss Wa m wc ws lf dn [ν .i64 Na y])) (fun _ _ w hs => hs.nil_row 97 2) ?_
 refine RunC.env [0, 2, 3, 13, 14, 15] [(0, pt ei), (2, ς0), (3, ς0), (13, ς e a k), (14, ι (a : Int)), (15, ι 0)] (by kernel_rfl) ?_
 refine RunC.only [0, 0, 0, 0, 0, 0, 0, 0, 0, 0, 0, 0, 0, 0, 0, 0] (ξ none 0 0 ([] : List Ch) :: rws .u8 l :: row 22 1 (ς e a k) a (rowsV l) :: row 106 1 (ς (ad C) 2 2) 2 [ς o g s, ς f b j] :: row 22 1 (ς f b j) b (rowsV u) :: blk ei 87 (([pt fi] : List Value) ++ (([.map (some me)] : List Value) ++ (([ς Na y.length z] : List Value) ++ (bls sl ++ ([ς Sa sn sc] : List Value))))) :: row 22 1 (ς o g s) g (rowsV B) :: mpf me (Fs.map feM) fc :: rws .i64 G :: blk fi 51 [pt wj, mv, ς NA L nc, η dd] :: blk wj 71 [pt d] :: δ d A n c ss Wa m wc ws lf dn [ν .i64 Na y]) (by kernel_rfl) ?_
 refine RunC.loop (σ := Nat) (fun n_ t_ D_ => ∃ (i : Int) (K : List Ch) (I : Option Addr) (E : Nat) (F : Nat), (0 ≤ i) ∧ (i ≤ (a : Int)) ∧ (dat K = chgL ss (dat ws) (rb l) i.toNat) ∧ (∀ r_ ∈ K, r_.2 ∈ l) ∧ (K.length = E) ∧ ((E : Int) ≤ i) ∧ (ChOK .u8 K) ∧ (0 < E → Option.isSome I = true) ∧ (E ≤ F) ∧ n_ = ((a - i).toNat : Nat) ∧ t_ = [(0, pt ei), (2, ς0), (3, ς I E F), (13, ς e a k), (14, ι (a : Int)), (15, ι i)] ∧ D_ = (ξ I E F K :: rws .u8 l :: row 22 1 (ς e a k) a (rowsV l) :: row 106 1 (ς (ad C) 2 2) 2 [ς o g s, ς f b j] :: row 22 1 (ς f b j) b (rowsV u) :: blk ei 87 (([pt fi] : List Value) ++ (([.map (some me)] : List Value) ++ (([ς Na y.length z] : List Value) ++ (bls sl ++ ([ς Sa sn sc] : List Value))))) :: row 22 1 (ς o g s) g (rowsV B) :: mpf me (Fs.map feM) fc :: rws .i64 G :: blk fi 51 [pt wj, mv, ς NA L nc, η dd] :: blk wj 71 [pt d] :: δ d A n c ss Wa m wc ws lf dn [ν .i64 Na y])) id _ ⟨0, ([] : List Ch), none, 0, 0, (by omega), (by omega), (by rfl), (by intro r h; cases h), (by rfl), (by omega), (by exact ChOK.nil _), (by intro h; omega), (by omega), rfl, rfl, rfl⟩ ?_
 rintro n_ _ _ ⟨i, K, I, E, F, hi, N0, V, hin, Z, O0, d0, T0, q0, rfl, rfl, rfl⟩
 refine RunC.sr ?_
 refine RunR.sl hU [] 1 1 [0, 2, 3, 13, 14, 15, 16] [(0, pt ei), (2, ς0), (3, ς I E F), (13, ς e a k), (14, ι (a : Int)), (15, ι i), (16, η (decide (i < (a : Int))))] 1 ?_
 refine RunR.nn ?_
 refine RunC.seq ?_
 refine RunC.condp (i < (a : Int)) (by kernel_rfl) (fun i0 => ?_) (fun i0 => ?_)
 ·refine RunC.ks ?_
  refine RunC.seq ?_
  refine RunC.block ?_
  refine RunC.sr ?_
  refine RunR.sil hU [] 2 2 [0, 2, 3, 13, 14, 15, 17, 18] [(0, pt ei), (2, ς0), (3, ς I E F), (13, ς e a k), (14, ι (a : Int)), (15, ι i), (17, ι i), (18, .pointer (elemAt e i 1))] ((True) ∧ ((0 ≤ i ∧ i < (a : Int)) ∧ Option.isSome e = true) ∧ True) rfl (by kernel_rfl) ⟨trivial, ⟨by omega, a0 (by omega)⟩, trivial⟩ ?_
  obtain ⟨t, v, q, P, c0, u0, J0⟩ := row_at (by assumption : RowsOK .u8 l) (i := (i).toNat) (by omega)
  have s0 := P
  refine RunR.st (some 19) (.load 22 (.tmp 18)) (Step.load_of hU 2 (row 22 1 (ς e a k) a (rowsV l)) e i 1 (rowsV l) (ς t q.length v) (by kernel_rfl) (by kernel_rfl) (tells_row _ _ _ _ _ _) (loadv_row (by kernel_rfl) P (Nat.mul_one _)) (by kernel_rfl) (by rw [rowsV_len]; omega) ?_)
  refine RunR.sl hU [] 2 5 [0, 2, 3, 4, 5, 13, 14, 15] [(0, pt ei), (2, ς0), (3, ς I E F), (4, ι i), (5, ς t q.length v), (13, ς e a k), (14, ι (a : Int)), (15, ι i)] 2 ?_
  refine RunR.nx ?_
  refine RunR.sl hU [] 3 3 [0, 2, 3, 4, 5, 13, 14, 15, 23] [(0, pt ei), (2, ς0), (3, ς I E F), (4, ι i), (5, ς t q.length v), (13, ς e a k), (14, ι (a : Int)), (15, ι i), (23, pt ei)] 3 ?_
  refine RunR.st (some 24) (.load 24 (.tmp 23)) (Step.load_blk hU 5 ei (0) 87 (([pt fi] : List Value) ++ (([.map (some me)] : List Value) ++ (([ς Na y.length z] : List Value) ++ (bls sl ++ ([ς Sa sn sc] : List Value))))) (pt fi) (by kernel_rfl) (by kernel_rfl) (loadv_one (by kernel_rfl) (show Seg _ 0 _ from Seg.here _ _)) (by kernel_rfl) ?_)
  refine RunR.sl hU [] 2 6 [0, 2, 3, 4, 5, 13, 14, 15, 26] [(0, pt ei), (2, ς0), (3, ς I E F), (4, ι i), (5, ς t q.length v), (13, ς e a k), (14, ι (a : Int)), (15, ι i), (26, pt fi)] 2 ?_
  refine RunR.st (some 27) (.load 40 (.tmp 26)) (Step.load_blk hU 9 fi (0) 51 [pt wj, mv, ς NA L nc, η dd] (pt wj) (by kernel_rfl) (by kernel_rfl) (by kernel_rfl) (by kernel_rfl) ?_)
  refine RunR.sl hU [] 1 8 [0, 2, 3, 4, 5, 13, 14, 15, 27, 28] [(0, pt ei), (2, ς0), (3, ς I E F), (4, ι i), (5, ς t q.length v), (13, ς e a k), (14, ι (a : Int)), (15, ι i), (27, pt wj), (28, ι i)] 1 ?_
  refine RunR.st (some 29) (.call { callee := .value (.func 22), args := #[.tmp 27, .tmp 28], argTypes := #[40, 3] }) (Step.cn 22 [pt wj, ι i] (blk wj 71 [pt d] :: δ d A n c ss Wa m wc ws lf dn []) [ξ I E F K, rws .u8 l, row 22 1 (ς e a k) a (rowsV l), row 106 1 (ς (ad C) 2 2) 2 [ς o g s, ς f b j], row 22 1 (ς f b j) b (rowsV u), blk ei 87 (([pt fi] : List Value) ++ (([.map (some me)] : List Value) ++ (([ς Na y.length z] : List Value) ++ (bls sl ++ ([ς Sa sn sc] : List Value))))), row 22 1 (ς o g s) g (rowsV B), mpf me (Fs.map feM) fc, rws .i64 G, blk fi 51 [pt wj, mv, ς NA L nc, η dd], ν .i64 Na y] (wl_Read_spec wj d A n c ss Wa m wc ws lf dn i hss ‹_› ‹_› (fun h => hAs (by exact h)) ‹_› ‹_› ‹_› (by omega) ‹_› ‹_› (fun h => hWs (by exact h)) (by (refine ⟨?_, ?_⟩ <;> omega))) [10, 10, 10, 10, 10] ?_)
  rintro _ _ ⟨H, J, x, L0, rfl, rfl, Y, X, x0, v0⟩
  rcases Y with ⟨Q, f0, g0, h0⟩ | ⟨Q, _⟩; rotate_left; exact absurd (show there n _ from ⟨by omega, by omega⟩) Q
  refine RunR.sl hU [] 5 14 [0, 2, 3, 4, 5, 6, 13, 14, 15] [(0, pt ei), (2, ς0), (3, ς I E F), (4, ι i), (5, ς t q.length v), (6, ς H x.length J), (13, ς e a k), (14, ι (a : Int)), (15, ι i)] 5 ?_
  refine RunR.nx ?_
  refine RunR.sl hU [] 2 2 [0, 2, 3, 4, 5, 13, 14, 15, 32, 33] [(0, pt ei), (2, ς0), (3, ς I E F), (4, ι i), (5, ς t q.length v), (13, ς e a k), (14, ι (a : Int)), (15, ι i), (32, ς H x.length J), (33, ς t q.length v)] 2 ?_
  refine RunR.st (some 34) (.call { callee := .value (.func 63), args := #[.tmp 32, .tmp 33], argTypes := #[22, 22] }) (Step.cl 63 [ς H x.length J, ς t q.length v] [] [ν .u8 H x, ν .u8 t q] (κ 5 .u8 H x.length J x :: blk wj 71 [pt d] :: δ d A n c ss Wa m wc ws lf dn [ξ I E F K, rws .u8 l, row 22 1 (ς e a k) a (rowsV l), row 106 1 (ς (ad C) 2 2) 2 [ς o g s, ς f b j], row 22 1 (ς f b j) b (rowsV u), blk ei 87 (([pt fi] : List Value) ++ (([.map (some me)] : List Value) ++ (([ς Na y.length z] : List Value) ++ (bls sl ++ ([ς Sa sn sc] : List Value))))), row 22 1 (ς o g s) g (rowsV B), mpf me (Fs.map feM) fc, rws .i64 G, blk fi 51 [pt wj, mv, ς NA L nc, η dd], ν .i64 Na y]) (b_Equal_spec H J x t v q x.length q.length X c0 (by rfl) (by rfl)) [] (((Lend.nil _).tells 7 (rws .u8 l) t (nums .u8 q) (by kernel_rfl) (tells_rwsI P)).tells 0 (κ 5 .u8 H x.length J x) H (nums .u8 x) (by kernel_rfl) (tells_row _ _ _ _ _ _)) ?_)
  rintro _ _ ⟨rfl, rfl⟩
  refine RunR.sl hU [] 1 4 [0, 2, 3, 4, 5, 13, 14, 15, 35] [(0, pt ei), (2, ς0), (3, ς I E F), (4, ι i), (5, ς t q.length v), (13, ς e a k), (14, ι (a : Int)), (15, ι i), (35, η (!decide (x = q)))] 1 ?_
  refine RunR.nn ?_
  refine RunC.condn (x = q) (by kernel_rfl) (fun n0 => ?_) (fun n0 => ?_)
  ·refine RunC.region ?_
   refine RunR.sl hU [] 4 4 [0, 2, 3, 13, 14, 15, 36, 39] [(0, pt ei), (2, ς0), (3, ς I E F), (13, ς e a k), (14, ι (a : Int)), (15, ι i), (36, ς I E F), (39, .agg #[ι i, ς t q.length v])] 4 ?_
   refine RunR.st (some 40) (.buildSlice 45 1 #[(0, .tmp 39)]) (Step.lit_pair hU 97 32 (.agg #[ι 0, ς0]) (ι i) (ς t q.length v) (by kernel_rfl) (by kernel_rfl) (by kernel_rfl) rfl rfl (by kernel_rfl) (fun T => ?_))
   refine RunR.turn ((ξ (ad T) 1 1 ([(i, t, v, q)] : List Ch) :: κ 5 .u8 H x.length J x :: blk wj 71 [pt d] :: δ d A n c ss Wa m wc ws lf dn [ξ I E F K, rws .u8 l, row 22 1 (ς e a k) a (rowsV l), row 106 1 (ς (ad C) 2 2) 2 [ς o g s, ς f b j], row 22 1 (ς f b j) b (rowsV u), blk ei 87 (([pt fi] : List Value) ++ (([.map (some me)] : List Value) ++ (([ς Na y.length z] : List Value) ++ (bls sl ++ ([ς Sa sn sc] : List Value))))), row 22 1 (ς o g s) g (rowsV B), mpf me (Fs.map feM) fc, rws .i64 G, blk fi 51 [pt wj, mv, ς NA L nc, η dd], ν .i64 Na y])) (fun _ _ w hs => hs) ?_
   refine RunR.st (some 41) (.call { callee := .builtin .append, args := #[.tmp 36, .tmp 40], argTypes := #[45, 45] }) (Step.append_ch hU 97 32 (.agg #[ι 0, ς0]) 7 0 I E F K (ad T) 1 1 (ξ (ad T) 1 1 ([(i, t, v, q)] : List Ch)) ([(i, t, v, q)] : List Ch) (by kernel_rfl) (by kernel_rfl) (by kernel_rfl) (by kernel_rfl) (by kernel_rfl) (by kernel_rfl) (by kernel_rfl) (tells_row _ _ _ _ _ _) rfl (by omega) (by omega) (by kernel_rfl) (fun M N r0 F0 => ?_))
   refine RunR.sl hU [] 1 7 [0, 2, 3, 13, 14, 15] [(0, pt ei), (2, ς0), (3, ς M (E + 1) N), (13, ς e a k), (14, ι (a : Int)), (15, ι i)] 1 ?_
   refine RunR.dn ?_
   refine kblock_n ?_
   refine kseq_n ?_
   refine RunC.region ?_
   refine RunR.sil hU [0] 2 2 [0, 2, 3, 13, 14, 15] [(0, pt ei), (2, ς0), (3, ς M (E + 1) N), (13, ς e a k), (14, ι (a : Int)), (15, ι (i + 1))] ((-9223372036854775808 ≤ (i + 1) ∧ (i + 1) < 9223372036854775808) ∧ (True) ∧ True) rfl (by kernel_rfl) ⟨(by omega), trivial, trivial⟩ ?_
   refine RunR.dn ?_
   refine kloop_n _ [0, 2, 3, 13, 14, 15] [0, 7, 7, 7, 7, 7, 7, 7, 7, 7, 2, 2, 2, 2, 2, 2] [(0, pt ei), (2, ς0), (3, ς M (E + 1) N), (13, ς e a k), (14, ι (a : Int)), (15, ι (i + 1))] (ξ M (E + 1) N (K ++ ([(i, t, v, q)] : List Ch)) :: rws .u8 l :: row 22 1 (ς e a k) a (rowsV l) :: row 106 1 (ς (ad C) 2 2) 2 [ς o g s, ς f b j] :: row 22 1 (ς f b j) b (rowsV u) :: blk ei 87 (([pt fi] : List Value) ++ (([.map (some me)] : List Value) ++ (([ς Na y.length z] : List Value) ++ (bls sl ++ ([ς Sa sn sc] : List Value))))) :: row 22 1 (ς o g s) g (rowsV B) :: mpf me (Fs.map feM) fc :: rws .i64 G :: blk fi 51 [pt wj, mv, ς NA L nc, η dd] :: blk wj 71 [pt d] :: δ d A n c ss Wa m wc ws lf dn [ν .i64 Na y]) (by kernel_rfl) (by kernel_rfl) ?_ ⟨(i + 1), (K ++ ([(i, t, v, q)] : List Ch)), M, (E + 1), N, (by omega), ‹_›, (by exact chg_more hi V ‹_› ‹_› ‹_›), (by exact chg_in hin ‹_›), (by (rw [List.length_append, Z]; rfl)), (by omega), (by exact d0.append (ChOK.one ⟨by omega, by omega⟩ ‹_› (by omega) (by omega))), ‹_›, ‹_›, rfl, (by rfl), (by rfl)⟩
   show ((a - (i + 1)).toNat : Nat) < ((a - i).toNat : Nat)
   omega
  refine RunC.skip ?_
  refine kblock_n ?_
  refine kseq_n ?_
  refine RunC.region ?_
  refine RunR.sil hU [0] 2 2 [0, 2, 3, 13, 14, 15] [(0, pt ei), (2, ς0), (3, ς I E F), (13, ς e a k), (14, ι (a : Int)), (15, ι (i + 1))] ((-9223372036854775808 ≤ (i + 1) ∧ (i + 1) < 9223372036854775808) ∧ (True) ∧ True) rfl (by kernel_rfl) ⟨(by omega), trivial, trivial⟩ ?_
  refine RunR.dn ?_
  refine kloop_n _ [0, 2, 3, 13, 14, 15] [6, 6, 6, 6, 6, 6, 6, 6, 6, 6, 1, 1, 1, 1, 1, 1] [(0, pt ei), (2, ς0), (3, ς I E F), (13, ς e a k), (14, ι (a : Int)), (15, ι (i + 1))] (ξ I E F K :: rws .u8 l :: row 22 1 (ς e a k) a (rowsV l) :: row 106 1 (ς (ad C) 2 2) 2 [ς o g s, ς f b j] :: row 22 1 (ς f b j) b (rowsV u) :: blk ei 87 (([pt fi] : List Value) ++ (([.map (some me)] : List Value) ++ (([ς Na y.length z] : List Value) ++ (bls sl ++ ([ς Sa sn sc] : List Value))))) :: row 22 1 (ς o g s) g (rowsV B) :: mpf me (Fs.map feM) fc :: rws .i64 G :: blk fi 51 [pt wj, mv, ς NA L nc, η dd] :: blk wj 71 [pt d] :: δ d A n c ss Wa m wc ws lf dn [ν .i64 Na y]) (by kernel_rfl) (by kernel_rfl) ?_ ⟨(i + 1), K, I, E, F, (by omega), ‹_›, (by exact chg_same hi V ‹_› ‹_› ‹_›), (by exact hin), ‹_›, (by omega), ‹_›, ‹_›, ‹_›, rfl, (by rfl), (by rfl)⟩
  show ((a - (i + 1)).toNat : Nat) < ((a - i).toNat : Nat)
  omega
 refine RunC.exit ?_
 refine kseq_e ?_
 refine kloop_e ?_
 refine kblock_e ?_
 refine kseq_n ?_
 refine RunC.sr ?_
 refine RunR.sl hU [] 2 2 [2] [(2, ς I E F)] 2 ?_
 refine RunR.nn ?_
 refine RunC.ret ?_
 refine kret_rt ((chd .u8 K :: ξ I E F K :: row 22 1 (ς e a k) a (rowsV l) :: row 106 1 (ς (ad C) 2 2) 2 [ς o g s, ς f b j] :: row 22 1 (ς f b j) b (rowsV u) :: blk ei 87 (([pt fi] : List Value) ++ (([.map (some me)] : List Value) ++ (([ς Na y.length z] : List Value) ++ (bls sl ++ ([ς Sa sn sc] : List Value))))) :: row 22 1 (ς o g s) g (rowsV B) :: mpf me (Fs.map feM) fc :: rws .i64 G :: blk fi 51 [pt wj, mv, ς NA L nc, η dd] :: blk wj 71 [pt d] :: δ d A n c ss Wa m wc ws lf dn [ν .i64 Na y])) (fun w0 W w hs => SAT.rwsChd (ws := K) ((hs).pulls2 [1] ((rws .u8 l :: ξ I E F K :: row 22 1 (ς e a k) a (rowsV l) :: row 106 1 (ς (ad C) 2 2) 2 [ς o g s, ς f b j] :: row 22 1 (ς f b j) b (rowsV u) :: blk ei 87 (([pt fi] : List Value) ++ (([.map (some me)] : List Value) ++ (([ς Na y.length z] : List Value) ++ (bls sl ++ ([ς Sa sn sc] : List Value))))) :: row 22 1 (ς o g s) g (rowsV B) :: mpf me (Fs.map feM) fc :: rws .i64 G :: blk fi 51 [pt wj, mv, ς NA L nc, η dd] :: blk wj 71 [pt d] :: δ d A n c ss Wa m wc ws lf dn [ν .i64 Na y])) (by kernel_rfl)) (by exact hin)) [ς I E F] [1, 0, 3, 4, 4, 4, 4, 4, 4, 4, 4] (ξ I E F K :: chd .u8 K :: blk ei 87 (([pt fi] : List Value) ++ (([.map (some me)] : List Value) ++ (([ς Na y.length z] : List Value) ++ (bls sl ++ ([ς Sa sn sc] : List Value))))) :: mpf me (Fs.map feM) fc :: rws .i64 G :: blk fi 51 [pt wj, mv, ς NA L nc, η dd] :: blk wj 71 [pt d] :: δ d A n c ss Wa m wc ws lf dn []) ⟨rfl, trivial⟩ (by kernel_rfl) rfl ⟨I, E, F, K, m0, rfl, rfl, ‹_›, (by rw [V, O, rb_append, j0, b0]; congr 1; omega), ‹_›, (by omega), ‹_›, ‹_›, ‹_›⟩
theorem fl_fell_spec (fi : Nat) (wj : Nat) (mv : Value) (NA : Option Addr) (a : Nat) (nc : Nat) (dd : Bool) (e : Int) :
 CallsS Try.prog 18 [pt fi, ι e] [blk fi 51 [pt wj, mv, ς NA a nc, η dd]] (fun r D => ∃ (c : Bool), r = ι e ∧ D = [blk fi 51 [pt wj, mv, ς NA a nc, η c]] ∧ (c = (dd || decide (e = 11)))) := by
 refine CallsS.enter hU Try.f18 _ [.tmp 4] 17 Try.func18 rfl (by decide) rfl rfl (by kernel_rfl) fun d W => ?_
 refine RunC.sr ?_
 refine RunR.sl hU [] 1 1 [0, 1, 4] [(0, pt fi), (1, ι e), (4, ι 0)] 1 ?_
 refine RunR.nx ?_
 refine RunR.sl hU [] 4 4 [1, 4, 5, 8] [(1, ι e), (4, ι 0), (5, pt fi), (8, .pointer (some ⟨fi, 3, none⟩))] 4 ?_
 refine RunR.st (some 9) (.load 4 (.tmp 8)) (Step.load_blk hU 0 fi (3) 51 [pt wj, mv, ς NA a nc, η dd] (η dd) (by kernel_rfl) (by kernel_rfl) (by kernel_rfl) (by kernel_rfl) ?_)
 refine RunR.sl hU [] 1 6 [1, 4, 5, 10] [(1, ι e), (4, ι 0), (5, pt fi), (10, η dd)] 1 ?_
 refine RunR.ev [1, 4, 5, 10] [(1, ι e), (4, ι 0), (5, pt fi), (10, η dd)] ?_
 by_cases b : dd = true
 ·refine RunR.enveq [(1, ι e), (4, ι 0), (5, pt fi), (10, η true)] (by rw [b]; try rfl) ?_
  refine RunR.sl hU [] 5 11 [1, 4, 13, 15] [(1, ι e), (4, ι 0), (13, η true), (15, .pointer (some ⟨fi, 3, none⟩))] 3 ?_
  refine RunR.st none (.store 4 (.tmp 15) (.tmp 13)) (Step.store_blk hU 0 fi 3 51 [pt wj, mv, ς NA a nc, η dd] (η true) (by kernel_rfl) (by kernel_rfl) (by kernel_rfl) 1 rfl [η true] (by kernel_rfl) rfl (by kernel_rfl) (by simp) ?_)
  refine RunR.nx ?_
  refine RunR.sl hU [] 2 2 [4] [(4, ι e)] 2 ?_
  refine RunR.nn ?_
  refine RunC.ret ?_
  refine kret_r [ι e] [0] [blk fi 51 [pt wj, mv, ς NA a nc, η true]] ⟨rfl, trivial⟩ (by kernel_rfl) rfl ⟨true, rfl, rfl, (by simp [*])⟩
 have b := Bool.eq_false_iff.2 b
 refine RunR.enveq [(1, ι e), (4, ι 0), (5, pt fi), (10, η false)] (by rw [b]; try rfl) ?_
 refine RunR.sl hU [] 5 11 [1, 4, 13, 15] [(1, ι e), (4, ι 0), (13, η (decide (e = 11))), (15, .pointer (some ⟨fi, 3, none⟩))] 5 ?_
 refine RunR.st none (.store 4 (.tmp 15) (.tmp 13)) (Step.store_blk hU 0 fi 3 51 [pt wj, mv, ς NA a nc, η dd] (η (decide (e = 11))) (by kernel_rfl) (by kernel_rfl) (by kernel_rfl) 1 rfl [η (decide (e = 11))] (by kernel_rfl) rfl (by kernel_rfl) (by simp) ?_)
 refine RunR.nx ?_
 refine RunR.sl hU [] 2 2 [4] [(4, ι e)] 2 ?_
 refine RunR.nn ?_
 refine RunC.ret ?_
 refine kret_r [ι e] [0] [blk fi 51 [pt wj, mv, ς NA a nc, η (decide (e = 11))]] ⟨rfl, trivial⟩ (by kernel_rfl) rfl ⟨(decide (e = 11)), rfl, rfl, (by simp [*])⟩
theorem fl_done_spec (ei : Nat) (fi : Nat) (me : Nat) (Fs : List Fe) (fc : Nat) (G : List Ro) (Na : Option Addr) (a : Nat) (b : List Int) (sl : List Bool) (Sa : Option Addr) (sn : Nat) (sc : Nat) (wj : Nat) (mv : Value) (NA : Option Addr) (C : Nat) (nc : Nat) (dd : Bool) (d : Nat) (A : Option Addr) (n : Nat) (c : Nat) (ss : List Int) (Wa : Option Addr) (m : Nat) (wc : Nat) (ws : List Ch) (lf : Int) (dn : Bool) (B : Nat) (hFe : FeOK Fs) (hFm : FMOK Fs fc) (hFi : FeIn Fs G) (hFd : FeD Fs) (N : In .i64 b) (f0 : Bnd 0 65536 b) (a0 : b.length ≤ 2048) (T : b.length ≤ a) (hss : In .u8 ss) (hnl : ss.length = n) (hnc : n ≤ c) (hAs : 0 < n → Option.isSome A = true) (i0 : n % 256 = 0) (hnb : n ≤ 557056) (hml : ws.length = m) (hmb : m ≤ 790000) (hok : ChOK .u8 ws) (hwk : WOK n ws) (hWs : 0 < m → Option.isSome Wa = true) (hnd : 19200 ≤ n) (hlf : 0 ≤ lf ∧ lf < 9223372036854775808) (K : b.length = B) :
 CallsS Try.prog 19 [pt ei] (blk ei 87 (([pt fi] : List Value) ++ (([.map (some me)] : List Value) ++ (([ς Na B a] : List Value) ++ (bls sl ++ ([ς Sa sn sc] : List Value))))) :: mpf me (Fs.map feM) fc :: rws .i64 G :: blk fi 51 [pt wj, mv, ς NA C nc, η dd] :: blk wj 71 [pt d] :: δ d A n c ss Wa m wc ws lf dn [ν .i64 Na b]) (fun r D => (∃ (e : Int) (u : List Int) (Wb : Option Addr) (E : Nat) (L : Nat) (g : List Ch) (q : Int) (z : Bool) (es : List Fe) (ls : List Ch), r = ι e ∧ D = (blk fi 51 [pt wj, .map (some me), ς Na B a, η dd] :: mpf me (Fs.map feM) fc :: rws .i64 G :: blk wj 71 [pt d] :: δ d A n c u Wb E L g q z []) ∧ (es.Perm Fs) ∧ (dat ls = chgL ss (dat ws) (dirS es ++ tabB b) (16 + (b.length + 127) / 128)) ∧ (ls.length ≤ 32) ∧ ((e, u, dat g, q, z) = commitP n ss (dat ws) lf dn ls) ∧ (e = 0) ∧ (In .u8 u) ∧ (u.length = n) ∧ (g.length = E) ∧ (E ≤ m + 100) ∧ (ChOK .u8 g) ∧ (WOK n g) ∧ (0 < E → Option.isSome Wb = true) ∧ (0 ≤ q ∧ q < 9223372036854775808)) ∨ (∃ (e : Int) (u : List Int) (Wb : Option Addr) (E : Nat) (L : Nat) (g : List Ch) (q : Int) (z : Bool) (es : List Fe) (ls : List Ch), r = ι e ∧ D = (rws .i64 G :: blk fi 51 [pt wj, mv, ς NA C nc, η dd] :: blk wj 71 [pt d] :: δ d A n c u Wb E L g q z []) ∧ (es.Perm Fs) ∧ (dat ls = chgL ss (dat ws) (dirS es ++ tabB b) (16 + (b.length + 127) / 128)) ∧ (ls.length ≤ 32) ∧ ((e, u, dat g, q, z) = commitP n ss (dat ws) lf dn ls) ∧ (¬ e = 0) ∧ (In .u8 u) ∧ (u.length = n) ∧ (g.length = E) ∧ (E ≤ m + 100) ∧ (ChOK .u8 g) ∧ (WOK n g) ∧ (0 < E → Option.isSome Wb = true) ∧ (0 ≤ q ∧ q < 9223372036854775808))) := by
 subst K
 refine CallsS.enter hU Try.f19 _ [.tmp 2] 37 Try.func19 rfl (by decide) rfl rfl (by kernel_rfl) fun w0 W => ?_
 refine RunC.know (p := 0 < b.length → Option.isSome Na = true) (fun _ _ w hs => vw_some hs 9 rfl (by (simp [nums_length]; done))) (fun g0 => ?_)
 refine RunC.sr ?_
 refine RunR.sl hU [] 1 1 [0, 2] [(0, pt ei), (2, ι 0)] 1 ?_
 refine RunR.nn ?_
 refine RunC.seq ?_
 refine RunC.regionU hU 11 [blk ei 87 (([pt fi] : List Value) ++ (([.map (some me)] : List Value) ++ (([ς Na b.length a] : List Value) ++ (bls sl ++ ([ς Sa sn sc] : List Value))))), blk fi 51 [pt wj, mv, ς NA C nc, η dd]] [0, 3] [9, 10] (bm 11 0) (by kernel_rfl) (by kernel_rfl) (by kernel_rfl) ?_
 refine RunU.sl hU 0 (bm 11 1) 4 (pt ei) ?_
 refine RunU.sl hU 1 (bm 11 3) 5 (pt ei) ?_
 refine RunU.sl hU 2 (bm 11 7) 6 (pt ei) ?_
 refine RunU.rd 3 (bm 11 15) 7 (.load 24 (.tmp 6)) (pt fi) [0, 3] (Reads.load_blk hU 0 ei (0) 87 (([pt fi] : List Value) ++ (([.map (some me)] : List Value) ++ (([ς Na b.length a] : List Value) ++ (bls sl ++ ([ς Sa sn sc] : List Value))))) (pt fi) (by kernel_rfl) (by kernel_rfl) (loadv_one (by kernel_rfl) (show Seg _ 0 _ from Seg.here _ _))) ?_
 refine RunU.sl hU 4 (bm 11 31) 8 (pt fi) ?_
 refine RunU.sl hU 5 (bm 11 63) 9 (pt fi) ?_
 refine RunU.rd 6 (bm 11 127) 10 (.load 40 (.tmp 9)) (pt wj) [0, 3] (Reads.load_blk hU 1 fi (0) 51 [pt wj, mv, ς NA C nc, η dd] (pt wj) (by kernel_rfl) (by kernel_rfl) (by kernel_rfl)) ?_
 refine RunU.sl hU 7 (bm 11 255) 11 (pt ei) ?_
 refine RunU.on (some 12) (.call { callee := .value (.func 40), args := #[.tmp 11], argTypes := #[52] }) 8 (bm 11 511) [2, 5] (Step.cl 40 [pt ei] (blk ei 87 (([pt fi] : List Value) ++ (([.map (some me)] : List Value) ++ (([ς Na b.length a] : List Value) ++ (bls sl ++ ([ς Sa sn sc] : List Value))))) :: mpf me (Fs.map feM) fc :: rws .i64 G :: blk fi 51 [pt wj, mv, ς NA C nc, η dd] :: blk wj 71 [pt d] :: δ d A n c ss Wa m wc ws lf dn []) [ν .i64 Na b] [ν .i64 Na b] (fl_changed_spec ei fi me Fs fc G Na a b sl Sa sn sc wj mv NA C nc dd d A n c ss Wa m wc ws lf dn b.length ‹_› ‹_› ‹_› ‹_› N ‹_› ‹_› ‹_› hss ‹_› ‹_› (fun h => hAs (by exact h)) ‹_› ‹_› ‹_› (by omega) ‹_› ‹_› (fun h => hWs (by exact h)) ‹_› (by rfl)) [0, 0, 0, 0, 0, 0, 0, 0, 0] ((Lend.nil _).tells 0 (ν .i64 Na b) Na (nums .i64 b) (by kernel_rfl) (tells_vw _ _)) ?_)
 rintro _ _ ⟨y, F, H, l, M, rfl, rfl, h0, e0, j0, b0, R, P, V⟩
 refine orL ?_
 refine RunU.on (some 13) (.call { callee := .value (.func 39), args := #[.tmp 10, .tmp 12], argTypes := #[40, 45] }) 9 (bm 11 1023) [] (Step.cl 39 [pt wj, ς y F H] (blk wj 71 [pt d] :: δ d A n c ss Wa m wc ws lf dn []) [vw y (chV l), vws (chL l)] [ξ y F H l, chd .u8 l, blk ei 87 (([pt fi] : List Value) ++ (([.map (some me)] : List Value) ++ (([ς Na b.length a] : List Value) ++ (bls sl ++ ([ς Sa sn sc] : List Value))))), mpf me (Fs.map feM) fc, rws .i64 G, blk fi 51 [pt wj, mv, ς NA C nc, η dd], ν .i64 Na b] (wl_Commit_spec wj d A n c ss Wa m wc ws lf dn y F H l hss ‹_› ‹_› (fun h => hAs (by exact h)) ‹_› ‹_› ‹_› (by omega) ‹_› ‹_› (fun h => hWs (by exact h)) ‹_› ‹_› (by omega) ‹_› (by omega)) [6, 6, 6, 6, 6] (((Lend.nil _).ofChd 1 (by kernel_rfl)).tells 0 (ξ y F H l) y (chV l) (by kernel_rfl) (tells_row _ _ _ _ _ _)) ?_)
 rintro _ _ ⟨f, j, x, v, t, k, i, s, rfl, rfl, S, I, Y, Q, X, c0, d0, J, Z⟩
 refine orR ?_
 refine RunU.sl hU 10 (bm 11 2047) 3 (ι f) ?_
 refine RunU.ev [0, 2, 3] [(0, pt ei), (2, ι 0), (3, ι f)] ?_
 refine RunU.dn ?_
 refine kseq_n ?_
 refine RunC.seq ?_
 refine RunC.sr ?_
 refine RunR.sl hU [] 2 2 [0, 2, 3, 15] [(0, pt ei), (2, ι 0), (3, ι f), (15, η (decide (f = 0)))] 2 ?_
 refine RunR.nn ?_
 refine RunC.condp (f = 0) (by kernel_rfl) (fun O => ?_) (fun O => ?_)
 ·refine RunC.regionU hU 22 [blk ei 87 (([pt fi] : List Value) ++ (([.map (some me)] : List Value) ++ (([ς Na b.length a] : List Value) ++ (bls sl ++ ([ς Sa sn sc] : List Value)))))] [7] [18, 19, 20, 21] (bm 22 0) (by kernel_rfl) (by kernel_rfl) (by kernel_rfl) ?_
  refine RunU.sl hU 0 (bm 22 1) 16 (pt ei) ?_
  refine RunU.sl hU 1 (bm 22 3) 17 (pt ei) ?_
  refine RunU.sl hU 2 (bm 22 7) 18 (pt ei) ?_
  refine RunU.rd 3 (bm 22 15) 19 (.load 24 (.tmp 18)) (pt fi) [7] (Reads.load_blk hU 0 ei (0) 87 (([pt fi] : List Value) ++ (([.map (some me)] : List Value) ++ (([ς Na b.length a] : List Value) ++ (bls sl ++ ([ς Sa sn sc] : List Value))))) (pt fi) (by kernel_rfl) (by kernel_rfl) (loadv_one (by kernel_rfl) (show Seg _ 0 _ from Seg.here _ _))) ?_
  refine RunU.sl hU 4 (bm 22 31) 20 (pt ei) ?_
  refine RunU.sl hU 5 (bm 22 63) 21 (pt ei) ?_
  refine RunU.sl hU 6 (bm 22 127) 22 (pt ei) ?_
  refine RunU.rd 7 (bm 22 255) 23 (.load 24 (.tmp 22)) (pt fi) [7] (Reads.load_blk hU 0 ei (0) 87 (([pt fi] : List Value) ++ (([.map (some me)] : List Value) ++ (([ς Na b.length a] : List Value) ++ (bls sl ++ ([ς Sa sn sc] : List Value))))) (pt fi) (by kernel_rfl) (by kernel_rfl) (loadv_one (by kernel_rfl) (show Seg _ 0 _ from Seg.here _ _))) ?_
  refine RunU.sl hU 8 (bm 22 511) 24 (pt ei) ?_
  refine RunU.sl hU 9 (bm 22 1023) 25 (pt ei) ?_
  refine RunU.sl hU 10 (bm 22 2047) 26 (.pointer (some ⟨ei, 1, none⟩)) ?_
  refine RunU.rd 11 (bm 22 4095) 27 (.load 48 (.tmp 26)) (.map (some me)) [7] (Reads.load_blk hU 0 ei (1) 87 (([pt fi] : List Value) ++ (([.map (some me)] : List Value) ++ (([ς Na b.length a] : List Value) ++ (bls sl ++ ([ς Sa sn sc] : List Value))))) (.map (some me)) (by kernel_rfl) (by kernel_rfl) (loadv_one (by kernel_rfl) (show Seg _ 1 _ from Seg.skip (n := 1) (o := 0) rfl (Seg.here _ _)))) ?_
  refine RunU.sl hU 12 (bm 22 8191) 28 (pt ei) ?_
  refine RunU.sl hU 13 (bm 22 16383) 29 (pt ei) ?_
  refine RunU.sl hU 14 (bm 22 32767) 30 (.pointer (some ⟨ei, 2, none⟩)) ?_
  refine RunU.rd 15 (bm 22 65535) 31 (.load 49 (.tmp 30)) (ς Na b.length a) [7] (Reads.load_blk hU 0 ei (2) 87 (([pt fi] : List Value) ++ (([.map (some me)] : List Value) ++ (([ς Na b.length a] : List Value) ++ (bls sl ++ ([ς Sa sn sc] : List Value))))) (ς Na b.length a) (by kernel_rfl) (by kernel_rfl) (loadv_one (by kernel_rfl) (show Seg _ 2 _ from Seg.skip (n := 1) (o := 1) rfl (Seg.skip (n := 1) (o := 0) rfl (Seg.here _ _))))) ?_
  refine RunU.sl hU 16 (bm 22 131071) 32 (pt fi) ?_
  refine RunU.sl hU 17 (bm 22 262143) 33 (.pointer (some ⟨fi, 1, none⟩)) ?_
  refine RunU.on none (.store 48 (.tmp 33) (.tmp 27)) 18 (bm 22 524287) [] (Step.store_blk hU 10 fi 1 51 [pt wj, mv, ς NA C nc, η dd] (.map (some me)) (by kernel_rfl) (by kernel_rfl) (by kernel_rfl) 1 rfl [.map (some me)] (by kernel_rfl) rfl (by kernel_rfl) (by simp) ?_)
  refine orR ?_
  refine RunU.sl hU 19 (bm 22 1048575) 34 (pt fi) ?_
  refine RunU.sl hU 20 (bm 22 2097151) 35 (.pointer (some ⟨fi, 2, none⟩)) ?_
  refine RunU.on none (.store 49 (.tmp 35) (.tmp 31)) 21 (bm 22 4194303) [] (Step.store_blk hU 0 fi 2 51 [pt wj, .map (some me), ς NA C nc, η dd] (ς Na b.length a) (by kernel_rfl) (by kernel_rfl) (by kernel_rfl) 1 rfl [ς Na b.length a] (by kernel_rfl) rfl (by kernel_rfl) (by simp) ?_)
  refine orR ?_
  refine RunU.ev [2, 3] [(2, ι 0), (3, ι f)] ?_
  refine RunU.dn ?_
  refine kseq_n ?_
  refine RunC.sr ?_
  refine RunR.sl hU [] 2 2 [2] [(2, ι f)] 2 ?_
  refine RunR.nn ?_
  refine RunC.ret ?_
  refine kret_r [ι f] [0, 8, 8, 0, 0, 0, 0, 0] (blk fi 51 [pt wj, .map (some me), ς Na b.length a, η dd] :: mpf me (Fs.map feM) fc :: rws .i64 G :: blk wj 71 [pt d] :: δ d A n c j x v t k i s []) ⟨rfl, trivial⟩ (by kernel_rfl) rfl (.inl ⟨f, j, x, v, t, k, i, s, M, l, rfl, rfl, ‹_›, ‹_›, (by omega), ‹_›, ‹_›, I, ‹_›, ‹_›, (by omega), ‹_›, ‹_›, (fun h => J (by exact h)), ‹_›⟩)
 refine RunC.ksr ?_
 refine RunR.sl hU [] 2 2 [2] [(2, ι f)] 2 ?_
 refine RunR.nn ?_
 refine RunC.ret ?_
 refine kret_r [ι f] [9, 9, 0, 0, 0, 0, 0] (rws .i64 G :: blk fi 51 [pt wj, mv, ς NA C nc, η dd] :: blk wj 71 [pt d] :: δ d A n c j x v t k i s []) ⟨rfl, trivial⟩ (by kernel_rfl) rfl (.inr ⟨f, j, x, v, t, k, i, s, M, l, rfl, rfl, ‹_›, ‹_›, (by omega), ‹_›, ‹_›, I, ‹_›, ‹_›, (by omega), ‹_›, ‹_›, (fun h => J (by exact h)), ‹_›⟩)
end Go.Proofs.Ytlibhidhfbecbaa.LFileOne
