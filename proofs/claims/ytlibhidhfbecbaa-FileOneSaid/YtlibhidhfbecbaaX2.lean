import Derived.Test.YtlibhidhfbecbaaOnePure
import Derived.Test.YtlibhidhfbecbaaProg
import Derived.Test.YtlibhidhfbecbaaX1
namespace Go.Proofs.Ytlibhidhfbecbaa.LFileOne
open Go Go.Proofs.Ytlibhidhfbecbaa.SL Go.Proofs.Ytlibhidhfbecbaa.SL.W Go.Proofs.Ytlibhidhfbecbaa.SL.D Go.Proofs.Ytlibhidhfbecbaa.SL.I Go.Proofs.Ytlibhidhfbecbaa.XT
set_option linter.unusedVariables false
set_option linter.unusedSimpArgs false
set_option maxRecDepth 100000
set_option maxHeartbeats 40000000
theorem d_Clone_spec (a : Option Addr) (e : Nat) (xs : List Int) (l_xs : Nat) (hIxs : In .u8 xs) (hCxs : xs.length ≤ e) (hBxs : xs.length ≤ 140737488351232) (hl_xs : xs.length = l_xs) :
 CallsS Try.prog 69 [ς a l_xs e] [ν .u8 a xs] (fun r D => ∃ (f : Option Addr) (g : Nat) (zs : List Int), r = ς f zs.length g ∧ D = [κ 5 .u8 f zs.length g zs] ∧ (zs = xs) ∧ (zs.length = xs.length) ∧ (In .u8 zs) ∧ (zs.length ≤ g) ∧ (0 < zs.length → Option.isSome f = true)) := by
 subst hl_xs
 refine CallsS.enter hU Try.f69 _ [.tmp 2] 8 Try.func69 rfl (by decide) rfl rfl (by kernel_rfl) fun q W => ?_
 refine RunC.know (p := 0 < xs.length → Option.isSome a = true) (fun _ _ w hs => vw_some hs 0 rfl (by (simp [nums_length]; done))) (fun l => ?_)
 refine RunC.sr ?_
 refine RunR.sl hU [] 1 1 [0, 2] [(0, ς a xs.length e), (2, ς0)] 1 ?_
 refine RunR.nn ?_
 refine RunC.seq ?_
 refine RunC.sr ?_
 refine RunR.sl hU [] 2 2 [0, 2, 4] [(0, ς a xs.length e), (2, ς0), (4, η (Option.isNone a))] 2 ?_
 refine RunR.nn ?_
 refine RunC.cond (b := Option.isNone a) (by kernel_rfl) (fun n => ?_) (fun n => ?_)
 ·refine RunC.sr ?_
  refine RunR.sl hU [] 1 1 [0, 2] [(0, ς a xs.length e), (2, ς0)] 1 ?_
  refine RunR.nn ?_
  refine RunC.ret ?_
  refine kseq_r ?_
  refine kret_rt ([κ 5 .u8 none 0 0 ([] : List Int), ν .u8 a xs]) (fun q W w hs => (hs).nil_row 5 1) [ς0] [0] [κ 5 .u8 none 0 0 ([] : List Int)] ⟨rfl, trivial⟩ (by kernel_rfl) rfl ⟨none, 0, ([] : List Int), rfl, rfl, (by exact (nil_of_none ‹_› ‹_›).symm), (by rw [nil_of_none (xs := xs) ‹_› ‹_›]), (by exact In.nil _), (by exact Nat.le_refl _), (by intro h; simp at h)⟩
 refine RunC.ksr ?_
 refine RunR.st (some 5) (.buildSlice 22 0 #[]) (Step.lit_nums hU 5 1 .u8 (.int .u8 0) ([] : List Int) rfl rfl (by kernel_rfl) rfl rfl (by kernel_rfl) (fun k => ?_))
 have m : (([] : List Int)).length = 0 := rfl
 refine RunR.sl hU [] 1 2 [2, 5, 6] [(2, ς0), (5, ς (ad k) 0 0), (6, ς a xs.length e)] 1 ?_
 have o : (([] : List Int)).length = 0 := rfl
 refine RunR.st (some 7) (.call { callee := .builtin .append, args := #[.tmp 5, .tmp 6], argTypes := #[22, 22] }) (Step.append_nums hU 5 1 (.int .u8 0) .u8 0 1 (ad k) 0 0 ([] : List Int) a xs.length e (ν .u8 a xs) xs rfl rfl rfl (by kernel_rfl) (by kernel_rfl) (by kernel_rfl) (by kernel_rfl) (tells_vw _ _) (by rfl) (by rfl) (by omega) (by omega) (by kernel_rfl) (fun c d i j => ?_))
 simp only [List.nil_append] at i j
 refine RunR.sl hU [] 1 4 [2] [(2, ς c xs.length d)] 1 ?_
 refine RunR.nn ?_
 refine RunC.ret ?_
 refine kret_r [ς c xs.length d] [0] [κ 5 .u8 c xs.length d xs] ⟨rfl, trivial⟩ (by kernel_rfl) rfl ⟨c, d, xs, rfl, rfl, (by rfl), (by rfl), (by exact hIxs), ‹_›, ‹_›⟩
theorem d_Blocks_spec (d : Nat) (A : Option Addr) (n : Nat) (c : Nat) (Wa : Option Addr) (m : Nat) (wc : Nat) (lf : Int) (dn : Bool) (a : n % 256 = 0) (hnb : n ≤ 557056) :
 CallsS Try.prog 48 [pt d] [blk d 47 [ς A n c, ς Wa m wc, ι lf, η dn]] (fun r D => r = ι ((n : Int) / 256) ∧ D = [blk d 47 [ς A n c, ς Wa m wc, ι lf, η dn]]) := by
 refine CallsS.enter hU Try.f48 _ [.tmp 2] 9 Try.func48 rfl (by decide) rfl rfl (by kernel_rfl) fun b W => ?_
 refine RunC.sr ?_
 refine RunR.sl hU [] 1 1 [0, 2] [(0, pt d), (2, ι 0)] 1 ?_
 refine RunR.nx ?_
 refine RunR.sl hU [] 3 3 [2, 5] [(2, ι 0), (5, pt d)] 3 ?_
 refine RunR.st (some 6) (.load 22 (.tmp 5)) (Step.load_blk hU 0 d (0) 47 [ς A n c, ς Wa m wc, ι lf, η dn] (ς A n c) (by kernel_rfl) (by kernel_rfl) (by kernel_rfl) (by kernel_rfl) ?_)
 refine RunR.sil hU [5] 3 7 [2] [(2, ι ((n : Int) / (256 : Int)))] ((True) ∧ (0 ≤ (n : Int) ∧ 0 < (256 : Int) ∧ -9223372036854775808 ≤ ((n : Int) / (256 : Int)) ∧ ((n : Int) / (256 : Int)) < 9223372036854775808) ∧ (True) ∧ True) rfl (by kernel_rfl) ⟨trivial, (by omega), trivial, trivial⟩ ?_
 refine RunR.nn ?_
 refine RunC.ret ?_
 refine kret_r [ι ((n : Int) / (256 : Int))] [0] [blk d 47 [ς A n c, ς Wa m wc, ι lf, η dn]] ⟨rfl, trivial⟩ (by kernel_rfl) rfl ⟨rfl, rfl⟩
theorem d_there_spec (d : Nat) (A : Option Addr) (n : Nat) (c : Nat) (Wa : Option Addr) (m : Nat) (wc : Nat) (lf : Int) (dn : Bool) (b : Int) (a : n % 256 = 0) (hnb : n ≤ 557056) :
 CallsS Try.prog 67 [pt d, ι b] [blk d 47 [ς A n c, ς Wa m wc, ι lf, η dn]] (fun r D => r = η (decide (0 ≤ b ∧ 256 * b + 256 ≤ (n : Int))) ∧ D = [blk d 47 [ς A n c, ς Wa m wc, ι lf, η dn]]) := by
 refine CallsS.enter hU Try.f67 _ [.tmp 4] 13 Try.func67 rfl (by decide) rfl rfl (by kernel_rfl) fun e W => ?_
 refine RunC.sr ?_
 refine RunR.sl hU [] 1 1 [0, 1, 4] [(0, pt d), (1, ι b), (4, η false)] 1 ?_
 refine RunR.nx ?_
 refine RunR.sl hU [] 3 3 [0, 1, 4, 7] [(0, pt d), (1, ι b), (4, η false), (7, η (decide (b ≥ 0)))] 3 ?_
 refine RunR.ev [0, 1, 4, 7] [(0, pt d), (1, ι b), (4, η false), (7, η (decide (b ≥ 0)))] ?_
 by_cases h1 : b ≥ 0
 ·refine RunR.enveq [(0, pt d), (1, ι b), (4, η false), (7, η true)] (by rw [decide_eq_true h1]; try rfl) ?_
  refine RunR.sl hU [] 2 5 [4, 7, 8, 9] [(4, η false), (7, η true), (8, ι b), (9, pt d)] 2 ?_
  refine RunR.st (some 10) (.call { callee := .value (.func 48), args := #[.tmp 9], argTypes := #[26] }) (Step.cn 48 [pt d] [blk d 47 [ς A n c, ς Wa m wc, ι lf, η dn]] [] (d_Blocks_spec d A n c Wa m wc lf dn ‹_› ‹_›) [0] ?_)
  rintro _ _ ⟨rfl, rfl⟩
  refine RunR.sl hU [] 3 9 [4] [(4, η (decide (b < ((n : Int) / 256))))] 3 ?_
  refine RunR.nn ?_
  refine RunC.ret ?_
  refine kret_r [η (decide (b < ((n : Int) / 256)))] [0] [blk d 47 [ς A n c, ς Wa m wc, ι lf, η dn]] ⟨rfl, trivial⟩ (by kernel_rfl) rfl ⟨(by (exact congrArg Value.bool (decide_eq_decide.2 (by omega)))), (by rfl)⟩
 refine RunR.enveq [(0, pt d), (1, ι b), (4, η false), (7, η false)] (by rw [decide_eq_false h1]; try rfl) ?_
 refine RunR.sl hU [] 6 9 [4] [(4, η false)] 2 ?_
 refine RunR.nn ?_
 refine RunC.ret ?_
 refine kret_r [η false] [0] [blk d 47 [ς A n c, ς Wa m wc, ι lf, η dn]] ⟨rfl, trivial⟩ (by kernel_rfl) rfl ⟨(by (exact congrArg Value.bool (decide_eq_false (by omega)).symm)), (by rfl)⟩
theorem d_act_spec (d : Nat) (A : Option Addr) (n : Nat) (c : Nat) (Wa : Option Addr) (m : Nat) (wc : Nat) (lf : Int) (dn : Bool) (hlf : 0 ≤ lf ∧ lf < 9223372036854775808) :
 CallsS Try.prog 71 [pt d] [blk d 47 [ς A n c, ς Wa m wc, ι lf, η dn]] (fun r D => ∃ (a : Int) (b : Bool), r = η b ∧ D = [blk d 47 [ς A n c, ς Wa m wc, ι a, η b]] ∧ ((a, b) = actP lf dn) ∧ (0 ≤ a ∧ a < 9223372036854775808)) := by
 refine CallsS.enter hU Try.f71 _ [.tmp 2] 27 Try.func71 rfl (by decide) rfl rfl (by kernel_rfl) fun f W => ?_
 refine RunC.sr ?_
 refine RunR.sl hU [] 1 1 [0, 2] [(0, pt d), (2, η false)] 1 ?_
 refine RunR.nn ?_
 refine RunC.seq ?_
 refine RunC.sr ?_
 refine RunR.sl hU [] 3 3 [0, 2, 5] [(0, pt d), (2, η false), (5, .pointer (some ⟨d, 2, none⟩))] 3 ?_
 refine RunR.st (some 6) (.load 3 (.tmp 5)) (Step.load_blk hU 0 d (2) 47 [ς A n c, ς Wa m wc, ι lf, η dn] (ι lf) (by kernel_rfl) (by kernel_rfl) (by kernel_rfl) (by kernel_rfl) ?_)
 refine RunR.sl hU [] 1 5 [0, 2, 7] [(0, pt d), (2, η false), (7, η (decide (lf > 0)))] 1 ?_
 refine RunR.nn ?_
 refine RunC.condp (lf > 0) (by kernel_rfl) (fun e => ?_) (fun e => ?_)
 ·refine RunC.sr ?_
  refine RunR.sl hU [] 3 3 [0, 2, 8, 10] [(0, pt d), (2, η false), (8, pt d), (10, .pointer (some ⟨d, 2, none⟩))] 3 ?_
  refine RunR.st (some 11) (.load 3 (.tmp 10)) (Step.load_blk hU 0 d (2) 47 [ς A n c, ς Wa m wc, ι lf, η dn] (ι lf) (by kernel_rfl) (by kernel_rfl) (by kernel_rfl) (by kernel_rfl) ?_)
  refine RunR.sil hU [4] 3 7 [0, 2, 12, 14] [(0, pt d), (2, η false), (12, ι (lf - 1)), (14, .pointer (some ⟨d, 2, none⟩))] ((-9223372036854775808 ≤ (lf - 1) ∧ (lf - 1) < 9223372036854775808) ∧ (True) ∧ (True) ∧ True) rfl (by kernel_rfl) ⟨(by omega), trivial, trivial, trivial⟩ ?_
  refine RunR.st none (.store 3 (.tmp 14) (.tmp 12)) (Step.store_blk hU 0 d 2 47 [ς A n c, ς Wa m wc, ι lf, η dn] (ι (lf - 1)) (by kernel_rfl) (by kernel_rfl) (by kernel_rfl) 1 rfl [ι (lf - 1)] (by kernel_rfl) rfl (by kernel_rfl) (by simp) ?_)
  refine RunR.nn ?_
  refine RunC.region ?_
  refine RunR.sl hU [] 4 4 [0, 2, 15, 18] [(0, pt d), (2, η false), (15, pt d), (18, .pointer (some ⟨d, 2, none⟩))] 4 ?_
  refine RunR.st (some 19) (.load 3 (.tmp 18)) (Step.load_blk hU 0 d (2) 47 [ς A n c, ς Wa m wc, ι (lf - 1), η dn] (ι (lf - 1)) (by kernel_rfl) (by kernel_rfl) (by kernel_rfl) (by kernel_rfl) ?_)
  refine RunR.sl hU [] 3 8 [0, 2, 20, 22] [(0, pt d), (2, η false), (20, η (decide ((lf - 1) = 0))), (22, .pointer (some ⟨d, 3, none⟩))] 3 ?_
  refine RunR.st none (.store 4 (.tmp 22) (.tmp 20)) (Step.store_blk hU 0 d 3 47 [ς A n c, ς Wa m wc, ι (lf - 1), η dn] (η (decide ((lf - 1) = 0))) (by kernel_rfl) (by kernel_rfl) (by kernel_rfl) 1 rfl [η (decide ((lf - 1) = 0))] (by kernel_rfl) rfl (by kernel_rfl) (by simp) ?_)
  refine RunR.nx ?_
  refine RunR.sl hU [] 3 3 [2, 25] [(2, η false), (25, .pointer (some ⟨d, 3, none⟩))] 3 ?_
  refine RunR.st (some 26) (.load 4 (.tmp 25)) (Step.load_blk hU 0 d (3) 47 [ς A n c, ς Wa m wc, ι (lf - 1), η (decide ((lf - 1) = 0))] (η (decide ((lf - 1) = 0))) (by kernel_rfl) (by kernel_rfl) (by kernel_rfl) (by kernel_rfl) ?_)
  refine RunR.sl hU [] 1 5 [2] [(2, η (decide ((lf - 1) = 0)))] 1 ?_
  refine RunR.nn ?_
  refine RunC.ret ?_
  refine kret_r [η (decide ((lf - 1) = 0))] [0] [blk d 47 [ς A n c, ς Wa m wc, ι (lf - 1), η (decide ((lf - 1) = 0))]] ⟨rfl, trivial⟩ (by kernel_rfl) rfl ⟨(lf - 1), (decide ((lf - 1) = 0)), rfl, rfl, (by rw [actP, if_pos ‹_›]), (by omega)⟩
 refine RunC.ksr ?_
 refine RunR.sl hU [] 3 3 [2, 25] [(2, η false), (25, .pointer (some ⟨d, 3, none⟩))] 3 ?_
 refine RunR.st (some 26) (.load 4 (.tmp 25)) (Step.load_blk hU 0 d (3) 47 [ς A n c, ς Wa m wc, ι lf, η dn] (η dn) (by kernel_rfl) (by kernel_rfl) (by kernel_rfl) (by kernel_rfl) ?_)
 refine RunR.sl hU [] 1 5 [2] [(2, η dn)] 1 ?_
 refine RunR.nn ?_
 refine RunC.ret ?_
 refine kret_r [η dn] [0] [blk d 47 [ς A n c, ς Wa m wc, ι lf, η dn]] ⟨rfl, trivial⟩ (by kernel_rfl) rfl ⟨lf, dn, rfl, rfl, (by rw [actP, if_neg ‹_›]), (by omega)⟩
theorem d_New_spec (x : Int) (hx : fits .i64 x) :
 CallsS Try.prog 6 [ι x] [] (fun r D => ∃ (e : Nat) (f : Option Addr) (a : Nat) (g : Nat) (zs : List Int), r = pt e ∧ D = (δ e f a g zs none 0 0 ([] : List Ch) 0 false []) ∧ (In .u8 zs) ∧ (zs.length = a) ∧ (a ≤ g) ∧ (0 < a → Option.isSome f = true) ∧ (a % 256 = 0) ∧ (a ≤ 557056) ∧ (zs = List.replicate a 0) ∧ ((a : Int) = 256 * max 0 (min x 2176))) := by
 refine CallsS.enter hU Try.f6 _ [.tmp 2] 10 Try.func6 rfl (by decide) rfl rfl (by kernel_rfl) fun j W => ?_
 have d := hx; simp only [fits] at d
 refine RunC.sr ?_
 refine RunR.sl hU [] 1 1 [0, 2] [(0, ι x), (2, .pointer none)] 1 ?_
 refine RunR.nx ?_
 have i : ((if 0 > x then 0 else x) = x ∨ (if 0 > x then 0 else x) = (0 : Int)) ∧ (if 0 > x then 0 else x) ≥ x ∧ (if 0 > x then 0 else x) ≥ (0 : Int) := by split <;> omega
 have k : ((if 2176 < (if 0 > x then 0 else x) then 2176 else if 0 > x then 0 else x) = (if 0 > x then 0 else x) ∨ (if 2176 < (if 0 > x then 0 else x) then 2176 else if 0 > x then 0 else x) = (2176 : Int)) ∧ (if 2176 < (if 0 > x then 0 else x) then 2176 else if 0 > x then 0 else x) ≤ (if 0 > x then 0 else x) ∧ (if 2176 < (if 0 > x then 0 else x) then 2176 else if 0 > x then 0 else x) ≤ (2176 : Int) := by split <;> omega
 refine RunR.sil hU [3] 4 4 [2, 6] [(2, .pointer none), (6, ι (256 * (if 2176 < (if 0 > x then 0 else x) then 2176 else if 0 > x then 0 else x)))] ((True) ∧ (True) ∧ (True) ∧ (-9223372036854775808 ≤ (256 * (if 2176 < (if 0 > x then 0 else x) then 2176 else if 0 > x then 0 else x)) ∧ (256 * (if 2176 < (if 0 > x then 0 else x) then 2176 else if 0 > x then 0 else x)) < 9223372036854775808) ∧ True) rfl (by kernel_rfl) ⟨trivial, trivial, trivial, (by omega), trivial⟩ ?_
 refine RunR.st (some 7) (.makeSlice 22 (.tmp 6) (.tmp 6)) (Step.make_nums hU 5 1 .u8 .i64 .i64 (256 * (if 2176 < (if 0 > x then 0 else x) then 2176 else if 0 > x then 0 else x)) rfl rfl (by kernel_rfl) (by kernel_rfl) (by omega) (by omega) (by kernel_rfl) (fun b => ?_))
 have h : (List.replicate ((256 * (if 2176 < (if 0 > x then 0 else x) then 2176 else if 0 > x then 0 else x)).toNat) (0 : Int)).length = (256 * (if 2176 < (if 0 > x then 0 else x) then 2176 else if 0 > x then 0 else x)).toNat := List.length_replicate
 refine RunR.sl hU [] 1 6 [2, 8] [(2, .pointer none), (8, .agg #[ς (ad b) ((256 * (if 2176 < (if 0 > x then 0 else x) then 2176 else if 0 > x then 0 else x)).toNat) ((256 * (if 2176 < (if 0 > x then 0 else x) then 2176 else if 0 > x then 0 else x)).toNat), ς0, ι 0, η false])] 1 ?_
 refine RunR.st (some 9) (.box 47 (.tmp 8)) (Step.box (.agg #[ς (ad b) ((256 * (if 2176 < (if 0 > x then 0 else x) then 2176 else if 0 > x then 0 else x)).toNat) ((256 * (if 2176 < (if 0 > x then 0 else x) then 2176 else if 0 > x then 0 else x)).toNat), ς0, ι 0, η false]) (by kernel_rfl) (by kernel_rfl) (fun c => ?_))
 refine RunR.sl hU [] 1 8 [2] [(2, pt c)] 1 ?_
 refine RunR.nn ?_
 refine RunC.ret ?_
 refine kret_rt ([chd .u8 ([] : List Ch), ξ none 0 0 ([] : List Ch), blk c 47 [ς (ad b) ((256 * (if 2176 < (if 0 > x then 0 else x) then 2176 else if 0 > x then 0 else x)).toNat) ((256 * (if 2176 < (if 0 > x then 0 else x) then 2176 else if 0 > x then 0 else x)).toNat), ς0, ι 0, η false], κ 5 .u8 (ad b) ((256 * (if 2176 < (if 0 > x then 0 else x) then 2176 else if 0 > x then 0 else x)).toNat) ((256 * (if 2176 < (if 0 > x then 0 else x) then 2176 else if 0 > x then 0 else x)).toNat) (List.replicate ((256 * (if 2176 < (if 0 > x then 0 else x) then 2176 else if 0 > x then 0 else x)).toNat) (0 : Int))]) (fun j W w hs => ((hs).nil_row 97 2).chd0 .u8) [pt c] [2, 2, 1, 0] [blk c 47 [ς (ad b) ((256 * (if 2176 < (if 0 > x then 0 else x) then 2176 else if 0 > x then 0 else x)).toNat) ((256 * (if 2176 < (if 0 > x then 0 else x) then 2176 else if 0 > x then 0 else x)).toNat), ς0, ι 0, η false], κ 5 .u8 (ad b) ((256 * (if 2176 < (if 0 > x then 0 else x) then 2176 else if 0 > x then 0 else x)).toNat) ((256 * (if 2176 < (if 0 > x then 0 else x) then 2176 else if 0 > x then 0 else x)).toNat) (List.replicate ((256 * (if 2176 < (if 0 > x then 0 else x) then 2176 else if 0 > x then 0 else x)).toNat) (0 : Int)), ξ none 0 0 ([] : List Ch), chd .u8 ([] : List Ch)] ⟨rfl, trivial⟩ (by kernel_rfl) rfl ⟨c, (ad b), ((256 * (if 2176 < (if 0 > x then 0 else x) then 2176 else if 0 > x then 0 else x)).toNat), ((256 * (if 2176 < (if 0 > x then 0 else x) then 2176 else if 0 > x then 0 else x)).toNat), (List.replicate ((256 * (if 2176 < (if 0 > x then 0 else x) then 2176 else if 0 > x then 0 else x)).toNat) (0 : Int)), rfl, rfl, (by exact In.replicate _ _), (by exact List.length_replicate), (by exact Nat.le_refl _), (by intro _; rfl), (by omega), (by omega), (by rfl), (by omega)⟩
end Go.Proofs.Ytlibhidhfbecbaa.LFileOne
