/- What these functions compute: a contract for each, walked through its code. -/
import Derived.Test.YtaaplakahkgclaaSLzk
import Derived.Test.YtaaplakahkgclaaBPure
import Derived.Test.YtaaplakahkgclaaProg
import Derived.Test.YtaaplakahkgclaaX1
namespace Go.Proofs.Ytaaplakahkgclaa.X2
open Go Go.Proofs.Ytaaplakahkgclaa.SL Go.Proofs.Ytaaplakahkgclaa.SL.W Go.Proofs.Ytaaplakahkgclaa.SL.D Go.Proofs.Ytaaplakahkgclaa.X1
set_option linter.unusedVariables false
set_option linter.unusedSimpArgs false
set_option maxRecDepth 100000
set_option maxHeartbeats 40000000
def U : Tab where
  und := [(3, .int .i64), (4, .bool), (5, .int .u8), (23, .slice 5), (28, .slice 51), (50, .struct #[{ name := "Block", type := 3, offset := 0, embedded := false, tag := "", pkgPath := "", byteOffset := 0 }, { name := "Data", type := 23, offset := 1, embedded := false, tag := "", pkgPath := "", byteOffset := 8 }]), (51, .struct #[{ name := "Block", type := 3, offset := 0, embedded := false, tag := "", pkgPath := "", byteOffset := 0 }, { name := "Data", type := 23, offset := 1, embedded := false, tag := "", pkgPath := "", byteOffset := 8 }]), (69, .struct #[{ name := "safe", type := 23, offset := 0, embedded := false, tag := "", pkgPath := "orlop/disk", byteOffset := 0 }, { name := "wait", type := 28, offset := 1, embedded := false, tag := "", pkgPath := "orlop/disk", byteOffset := 24 }, { name := "left", type := 3, offset := 2, embedded := false, tag := "", pkgPath := "orlop/disk", byteOffset := 48 }, { name := "down", type := 4, offset := 3, embedded := false, tag := "", pkgPath := "orlop/disk", byteOffset := 56 }]), (70, .struct #[{ name := "safe", type := 23, offset := 0, embedded := false, tag := "", pkgPath := "orlop/disk", byteOffset := 0 }, { name := "wait", type := 28, offset := 1, embedded := false, tag := "", pkgPath := "orlop/disk", byteOffset := 24 }, { name := "left", type := 3, offset := 2, embedded := false, tag := "", pkgPath := "orlop/disk", byteOffset := 48 }, { name := "down", type := 4, offset := 3, embedded := false, tag := "", pkgPath := "orlop/disk", byteOffset := 56 }])]
  fld := [((50, 0), (0, 3)), ((50, 1), (1, 23)), ((51, 0), (0, 3)), ((51, 1), (1, 23)), ((69, 0), (0, 23)), ((69, 1), (1, 28)), ((69, 2), (2, 3)), ((69, 3), (3, 4)), ((70, 0), (0, 23)), ((70, 1), (1, 28)), ((70, 2), (2, 3)), ((70, 3), (3, 4))]
  sz := [(3, 1), (4, 1), (5, 1), (23, 1), (28, 1), (50, 2), (51, 2), (69, 4), (70, 4)]
  ti := [(3, (1, 8, .int .i64 0)), (4, (1, 1, .bool false)), (5, (1, 1, .int .u8 0)), (23, (1, 24, .slice none 0 0)), (28, (1, 24, .slice none 0 0)), (50, (2, 32, .agg #[.int .i64 0, .slice none 0 0])), (51, (2, 32, .agg #[.int .i64 0, .slice none 0 0])), (69, (4, 64, .agg #[.slice none 0 0, .slice none 0 0, .int .i64 0, .bool false])), (70, (4, 64, .agg #[.slice none 0 0, .slice none 0 0, .int .i64 0, .bool false]))]
  bld := [(50, [(0, 1), (1, 1)]), (51, [(0, 1), (1, 1)]), (69, [(0, 1), (1, 1), (2, 1), (3, 1)]), (70, [(0, 1), (1, 1), (2, 1), (3, 1)])]

theorem hU : U.OK Try.prog where
  und := by
    intro p hp
    simp only [U, List.mem_cons, List.not_mem_nil, or_false] at hp
    rcases hp with rfl | rfl | rfl | rfl | rfl | rfl | rfl | rfl | rfl
    · exact Try.underlying3
    · exact Try.underlying4
    · exact Try.underlying5
    · exact Try.underlying23
    · exact Try.underlying28
    · exact Try.underlying50
    · exact Try.underlying51
    · exact Try.underlying69
    · exact Try.underlying70
  fld := by
    intro p hp
    simp only [U, List.mem_cons, List.not_mem_nil, or_false] at hp
    rcases hp with rfl | rfl | rfl | rfl | rfl | rfl | rfl | rfl | rfl | rfl | rfl | rfl
    · exact ⟨_, _, Try.underlying50, rfl, rfl, rfl, Try.prog.types[3]!, by kernel_rfl, by decide +kernel⟩
    · exact ⟨_, _, Try.underlying50, rfl, rfl, rfl, Try.prog.types[23]!, by kernel_rfl, by decide +kernel⟩
    · exact ⟨_, _, Try.underlying51, rfl, rfl, rfl, Try.prog.types[3]!, by kernel_rfl, by decide +kernel⟩
    · exact ⟨_, _, Try.underlying51, rfl, rfl, rfl, Try.prog.types[23]!, by kernel_rfl, by decide +kernel⟩
    · exact ⟨_, _, Try.underlying69, rfl, rfl, rfl, Try.prog.types[23]!, by kernel_rfl, by decide +kernel⟩
    · exact ⟨_, _, Try.underlying69, rfl, rfl, rfl, Try.prog.types[28]!, by kernel_rfl, by decide +kernel⟩
    · exact ⟨_, _, Try.underlying69, rfl, rfl, rfl, Try.prog.types[3]!, by kernel_rfl, by decide +kernel⟩
    · exact ⟨_, _, Try.underlying69, rfl, rfl, rfl, Try.prog.types[4]!, by kernel_rfl, by decide +kernel⟩
    · exact ⟨_, _, Try.underlying70, rfl, rfl, rfl, Try.prog.types[23]!, by kernel_rfl, by decide +kernel⟩
    · exact ⟨_, _, Try.underlying70, rfl, rfl, rfl, Try.prog.types[28]!, by kernel_rfl, by decide +kernel⟩
    · exact ⟨_, _, Try.underlying70, rfl, rfl, rfl, Try.prog.types[3]!, by kernel_rfl, by decide +kernel⟩
    · exact ⟨_, _, Try.underlying70, rfl, rfl, rfl, Try.prog.types[4]!, by kernel_rfl, by decide +kernel⟩
  sz := by
    intro p hp
    simp only [U, List.mem_cons, List.not_mem_nil, or_false] at hp
    rcases hp with rfl | rfl | rfl | rfl | rfl | rfl | rfl | rfl | rfl
    · exact ⟨Try.prog.types[3]!, by kernel_rfl, by kernel_rfl⟩
    · exact ⟨Try.prog.types[4]!, by kernel_rfl, by kernel_rfl⟩
    · exact ⟨Try.prog.types[5]!, by kernel_rfl, by kernel_rfl⟩
    · exact ⟨Try.prog.types[23]!, by kernel_rfl, by kernel_rfl⟩
    · exact ⟨Try.prog.types[28]!, by kernel_rfl, by kernel_rfl⟩
    · exact ⟨Try.prog.types[50]!, by kernel_rfl, by kernel_rfl⟩
    · exact ⟨Try.prog.types[51]!, by kernel_rfl, by kernel_rfl⟩
    · exact ⟨Try.prog.types[69]!, by kernel_rfl, by kernel_rfl⟩
    · exact ⟨Try.prog.types[70]!, by kernel_rfl, by kernel_rfl⟩
  ti := by
    intro p hp
    simp only [U, List.mem_cons, List.not_mem_nil, or_false] at hp
    rcases hp with rfl | rfl | rfl | rfl | rfl | rfl | rfl | rfl | rfl
    · exact ⟨Try.prog.types[3]!, by kernel_rfl, by kernel_rfl, by kernel_rfl, by kernel_rfl⟩
    · exact ⟨Try.prog.types[4]!, by kernel_rfl, by kernel_rfl, by kernel_rfl, by kernel_rfl⟩
    · exact ⟨Try.prog.types[5]!, by kernel_rfl, by kernel_rfl, by kernel_rfl, by kernel_rfl⟩
    · exact ⟨Try.prog.types[23]!, by kernel_rfl, by kernel_rfl, by kernel_rfl, by kernel_rfl⟩
    · exact ⟨Try.prog.types[28]!, by kernel_rfl, by kernel_rfl, by kernel_rfl, by kernel_rfl⟩
    · exact ⟨Try.prog.types[50]!, by kernel_rfl, by kernel_rfl, by kernel_rfl, by kernel_rfl⟩
    · exact ⟨Try.prog.types[51]!, by kernel_rfl, by kernel_rfl, by kernel_rfl, by kernel_rfl⟩
    · exact ⟨Try.prog.types[69]!, by kernel_rfl, by kernel_rfl, by kernel_rfl, by kernel_rfl⟩
    · exact ⟨Try.prog.types[70]!, by kernel_rfl, by kernel_rfl, by kernel_rfl, by kernel_rfl⟩
  bld := by
    intro p hp
    simp only [U, List.mem_cons, List.not_mem_nil, or_false] at hp
    rcases hp with rfl | rfl | rfl | rfl
    · exact ⟨_, Try.underlying50, by kernel_rfl⟩
    · exact ⟨_, Try.underlying51, by kernel_rfl⟩
    · exact ⟨_, Try.underlying69, by kernel_rfl⟩
    · exact ⟨_, Try.underlying70, by kernel_rfl⟩
  mixed := by kernel_rfl

theorem d_Clone_spec (A8 : Option Addr) (c8 : Nat) (xs : List Int) (l_xs : Nat) (hIxs : In .u8 xs) (hCxs : xs.length ≤ c8) (hBxs : xs.length ≤ 140737488351232) (hl_xs : xs.length = l_xs) :
    CallsS Try.prog 51 [.slice A8 l_xs c8] [vw A8 (nums .u8 xs)] (fun r D => ∃ (A9 : Option Addr) (c9 : Nat) (zs : List Int), r = .slice A9 zs.length c9 ∧ D = [row 5 1 (.slice A9 zs.length c9) zs.length (nums .u8 zs)] ∧ (zs = xs) ∧ (zs.length = xs.length) ∧ (In .u8 zs) ∧ (zs.length ≤ c9) ∧ (0 < zs.length → Option.isSome A9 = true)) := by
  subst hl_xs
  refine CallsS.enter hU Try.f51 _ [.tmp 2] 8 Try.func51 rfl (by decide) rfl rfl (by kernel_rfl) fun w0 W => ?_
  refine RunC.know (p := 0 < xs.length → Option.isSome A8 = true) (fun _ _ w hs => vw_some hs 0 rfl (by (simp [nums_length]; done))) (fun hA1 => ?_)
  refine RunC.sr ?_
  refine RunR.sl hU [] 1 1 [0, 2] [(0, .slice A8 xs.length c8), (2, .slice none 0 0)] 1 ?_
  refine RunR.nn ?_
  refine RunC.seq ?_
  refine RunC.sr ?_
  refine RunR.sl hU [] 2 2 [0, 2, 4] [(0, .slice A8 xs.length c8), (2, .slice none 0 0), (4, .bool (Option.isNone A8))] 2 ?_
  refine RunR.nn ?_
  refine RunC.cond (b := Option.isNone A8) (by kernel_rfl) (fun h2 => ?_) (fun h2 => ?_)
  · skip
    refine RunC.sr ?_
    refine RunR.sl hU [] 1 1 [0, 2] [(0, .slice A8 xs.length c8), (2, .slice none 0 0)] 1 ?_
    refine RunR.nn ?_
    refine RunC.ret ?_
    refine kseq_r ?_
    refine kret_rt ([row 5 1 (.slice none 0 0) 0 (nums .u8 ([] : List Int)), vw A8 (nums .u8 xs)]) (fun w0 W w hs => (hs).nil_row 5 1) [.slice none 0 0] [0] [row 5 1 (.slice none 0 0) 0 (nums .u8 ([] : List Int))] ⟨rfl, trivial⟩ (by kernel_rfl) rfl ⟨none, 0, ([] : List Int), rfl, rfl, (by exact (nil_of_none (by assumption) (by assumption)).symm), (by rw [nil_of_none (xs := xs) (by assumption) (by assumption)]), (by exact In.nil _), (by exact Nat.le_refl _), (by intro h; simp at h)⟩
  · skip
    refine RunC.ksr ?_
    refine RunR.st (some 5) (.buildSlice 23 0 #[]) (Step.lit_nums hU 5 1 .u8 (.int .u8 0) ([] : List Int) rfl rfl (by kernel_rfl) rfl rfl (by kernel_rfl) (fun b3 => ?_))
    have hl4 : (([] : List Int)).length = 0 := rfl
    refine RunR.sl hU [] 1 2 [2, 5, 6] [(2, .slice none 0 0), (5, .slice (some ⟨b3, 0, none⟩) 0 0), (6, .slice A8 xs.length c8)] 1 ?_
    have hl9 : (([] : List Int)).length = 0 := rfl
    refine RunR.st (some 7) (.call { callee := .builtin .append, args := #[.tmp 5, .tmp 6], argTypes := #[23, 23] }) (Step.append_nums hU 5 1 (.int .u8 0) .u8 0 1 (some ⟨b3, 0, none⟩) 0 0 ([] : List Int) A8 xs.length c8 (vw A8 (nums .u8 xs)) xs rfl rfl rfl (by kernel_rfl) (by kernel_rfl) (by kernel_rfl) (by kernel_rfl) (tells_vw _ _) (by rfl) (by rfl) (by omega) (by omega) (by kernel_rfl) (fun Aq5 cq6 hc7 hA8 => ?_))
    simp only [List.nil_append] at hc7 hA8
    refine RunR.sl hU [] 1 4 [2] [(2, .slice Aq5 xs.length cq6)] 1 ?_
    refine RunR.nn ?_
    refine RunC.ret ?_
    refine kret_r [.slice Aq5 xs.length cq6] [0] [row 5 1 (.slice Aq5 xs.length cq6) xs.length (nums .u8 xs)] ⟨rfl, trivial⟩ (by kernel_rfl) rfl ⟨Aq5, cq6, xs, rfl, rfl, (by rfl), (by rfl), (by exact hIxs), (by assumption), (by assumption)⟩

theorem d_Blocks_spec (d : Nat) (A : Option Addr) (n : Nat) (c : Nat) (Wa : Option Addr) (m : Nat) (wc : Nat) (lf : Int) (dn : Bool) (hn6 : n % 256 = 0) (hnb : n ≤ 557056) :
    CallsS Try.prog 54 [pt d] [blk d 70 [.slice A n c, .slice Wa m wc, .int .i64 lf, .bool dn]] (fun r D => r = .int .i64 (((n : Nat) : Int) / 256) ∧ D = [blk d 70 [.slice A n c, .slice Wa m wc, .int .i64 lf, .bool dn]]) := by
  refine CallsS.enter hU Try.f54 _ [.tmp 2] 9 Try.func54 rfl (by decide) rfl rfl (by kernel_rfl) fun w0 W => ?_
  refine RunC.sr ?_
  refine RunR.sl hU [] 1 1 [0, 2] [(0, pt d), (2, .int .i64 0)] 1 ?_
  refine RunR.nx ?_
  refine RunR.sl hU [] 3 3 [2, 5] [(2, .int .i64 0), (5, pt d)] 3 ?_
  refine RunR.st (some 6) (.load 23 (.tmp 5)) (Step.load_blk hU 0 d (0) 70 [.slice A n c, .slice Wa m wc, .int .i64 lf, .bool dn] (.slice A n c) (by kernel_rfl) (by kernel_rfl) (by kernel_rfl) (by kernel_rfl) ?_)
  refine RunR.sil hU [5] 3 7 [2] [(2, .int .i64 (((n : Nat) : Int) / (256 : Int)))] ((True) ∧ (0 ≤ ((n : Nat) : Int) ∧ 0 < (256 : Int) ∧ -9223372036854775808 ≤ (((n : Nat) : Int) / (256 : Int)) ∧ (((n : Nat) : Int) / (256 : Int)) < 9223372036854775808) ∧ (True) ∧ True) rfl (by kernel_rfl) ⟨trivial, (by omega), trivial, trivial⟩ ?_
  refine RunR.nn ?_
  refine RunC.ret ?_
  refine kret_r [.int .i64 (((n : Nat) : Int) / (256 : Int))] [0] [blk d 70 [.slice A n c, .slice Wa m wc, .int .i64 lf, .bool dn]] ⟨rfl, trivial⟩ (by kernel_rfl) rfl ⟨rfl, rfl⟩

theorem d_there_spec (d : Nat) (A : Option Addr) (n : Nat) (c : Nat) (Wa : Option Addr) (m : Nat) (wc : Nat) (lf : Int) (dn : Bool) (b : Int) (hn6 : n % 256 = 0) (hnb : n ≤ 557056) :
    CallsS Try.prog 70 [pt d, .int .i64 b] [blk d 70 [.slice A n c, .slice Wa m wc, .int .i64 lf, .bool dn]] (fun r D => r = .bool (decide (0 ≤ b ∧ 256 * b + 256 ≤ (n : Int))) ∧ D = [blk d 70 [.slice A n c, .slice Wa m wc, .int .i64 lf, .bool dn]]) := by
  refine CallsS.enter hU Try.f70 _ [.tmp 4] 13 Try.func70 rfl (by decide) rfl rfl (by kernel_rfl) fun w0 W => ?_
  refine RunC.sr ?_
  refine RunR.sl hU [] 1 1 [0, 1, 4] [(0, pt d), (1, .int .i64 b), (4, .bool false)] 1 ?_
  refine RunR.nx ?_
  refine RunR.sl hU [] 3 3 [0, 1, 4, 7] [(0, pt d), (1, .int .i64 b), (4, .bool false), (7, .bool (decide (b ≥ 0)))] 3 ?_
  refine RunR.ev [0, 1, 4, 7] [(0, pt d), (1, .int .i64 b), (4, .bool false), (7, .bool (decide (b ≥ 0)))] ?_
  by_cases h1 : b ≥ 0
  · skip
    refine RunR.enveq [(0, pt d), (1, .int .i64 b), (4, .bool false), (7, .bool true)] (by rw [decide_eq_true h1]; try rfl) ?_
    refine RunR.sl hU [] 2 5 [4, 7, 8, 9] [(4, .bool false), (7, .bool true), (8, .int .i64 b), (9, pt d)] 2 ?_
    refine RunR.st (some 10) (.call { callee := .value (.func 54), args := #[.tmp 9], argTypes := #[30] }) (Step.cn 54 [pt d] [blk d 70 [.slice A n c, .slice Wa m wc, .int .i64 lf, .bool dn]] [] (d_Blocks_spec d A n c Wa m wc lf dn (by assumption) (by assumption)) [0] ?_)
    rintro _ _ ⟨rfl, rfl⟩
    refine RunR.sl hU [] 3 9 [4] [(4, .bool (decide (b < (((n : Nat) : Int) / 256))))] 3 ?_
    refine RunR.nn ?_
    refine RunC.ret ?_
    refine kret_r [.bool (decide (b < (((n : Nat) : Int) / 256)))] [0] [blk d 70 [.slice A n c, .slice Wa m wc, .int .i64 lf, .bool dn]] ⟨rfl, trivial⟩ (by kernel_rfl) rfl ⟨(by (exact congrArg Value.bool (decide_eq_decide.2 (by omega)))), (by rfl)⟩
  · skip
    refine RunR.enveq [(0, pt d), (1, .int .i64 b), (4, .bool false), (7, .bool false)] (by rw [decide_eq_false h1]; try rfl) ?_
    refine RunR.sl hU [] 6 9 [4] [(4, .bool false)] 2 ?_
    refine RunR.nn ?_
    refine RunC.ret ?_
    refine kret_r [.bool false] [0] [blk d 70 [.slice A n c, .slice Wa m wc, .int .i64 lf, .bool dn]] ⟨rfl, trivial⟩ (by kernel_rfl) rfl ⟨(by (exact congrArg Value.bool (decide_eq_false (by omega)).symm)), (by rfl)⟩

theorem d_act_spec (d : Nat) (A : Option Addr) (n : Nat) (c : Nat) (Wa : Option Addr) (m : Nat) (wc : Nat) (lf : Int) (dn : Bool) (hlf : 0 ≤ lf ∧ lf < 9223372036854775808) :
    CallsS Try.prog 68 [pt d] [blk d 70 [.slice A n c, .slice Wa m wc, .int .i64 lf, .bool dn]] (fun r D => ∃ (lf2 : Int) (dn2 : Bool), r = .bool dn2 ∧ D = [blk d 70 [.slice A n c, .slice Wa m wc, .int .i64 lf2, .bool dn2]] ∧ ((lf2, dn2) = actP lf dn) ∧ (0 ≤ lf2 ∧ lf2 < 9223372036854775808)) := by
  refine CallsS.enter hU Try.f68 _ [.tmp 2] 27 Try.func68 rfl (by decide) rfl rfl (by kernel_rfl) fun w0 W => ?_
  refine RunC.sr ?_
  refine RunR.sl hU [] 1 1 [0, 2] [(0, pt d), (2, .bool false)] 1 ?_
  refine RunR.nn ?_
  refine RunC.seq ?_
  refine RunC.sr ?_
  refine RunR.sl hU [] 3 3 [0, 2, 5] [(0, pt d), (2, .bool false), (5, .pointer (some ⟨d, 2, none⟩))] 3 ?_
  refine RunR.st (some 6) (.load 3 (.tmp 5)) (Step.load_blk hU 0 d (2) 70 [.slice A n c, .slice Wa m wc, .int .i64 lf, .bool dn] (.int .i64 lf) (by kernel_rfl) (by kernel_rfl) (by kernel_rfl) (by kernel_rfl) ?_)
  refine RunR.sl hU [] 1 5 [0, 2, 7] [(0, pt d), (2, .bool false), (7, .bool (decide (lf > 0)))] 1 ?_
  refine RunR.nn ?_
  refine RunC.condp (lf > 0) (by kernel_rfl) (fun h1 => ?_) (fun h1 => ?_)
  · skip
    refine RunC.sr ?_
    refine RunR.sl hU [] 3 3 [0, 2, 8, 10] [(0, pt d), (2, .bool false), (8, pt d), (10, .pointer (some ⟨d, 2, none⟩))] 3 ?_
    refine RunR.st (some 11) (.load 3 (.tmp 10)) (Step.load_blk hU 0 d (2) 70 [.slice A n c, .slice Wa m wc, .int .i64 lf, .bool dn] (.int .i64 lf) (by kernel_rfl) (by kernel_rfl) (by kernel_rfl) (by kernel_rfl) ?_)
    refine RunR.sil hU [4] 3 7 [0, 2, 12, 14] [(0, pt d), (2, .bool false), (12, .int .i64 (lf - 1)), (14, .pointer (some ⟨d, 2, none⟩))] ((-9223372036854775808 ≤ (lf - 1) ∧ (lf - 1) < 9223372036854775808) ∧ (True) ∧ (True) ∧ True) rfl (by kernel_rfl) ⟨(by omega), trivial, trivial, trivial⟩ ?_
    refine RunR.st none (.store 3 (.tmp 14) (.tmp 12)) (Step.store_blk hU 0 d 2 70 [.slice A n c, .slice Wa m wc, .int .i64 lf, .bool dn] (.int .i64 (lf - 1)) (by kernel_rfl) (by kernel_rfl) (by kernel_rfl) 1 rfl [.int .i64 (lf - 1)] (by kernel_rfl) rfl (by kernel_rfl) (by simp) ?_)
    refine RunR.nn ?_
    refine RunC.region ?_
    refine RunR.sl hU [] 4 4 [0, 2, 15, 18] [(0, pt d), (2, .bool false), (15, pt d), (18, .pointer (some ⟨d, 2, none⟩))] 4 ?_
    refine RunR.st (some 19) (.load 3 (.tmp 18)) (Step.load_blk hU 0 d (2) 70 [.slice A n c, .slice Wa m wc, .int .i64 (lf - 1), .bool dn] (.int .i64 (lf - 1)) (by kernel_rfl) (by kernel_rfl) (by kernel_rfl) (by kernel_rfl) ?_)
    refine RunR.sl hU [] 3 8 [0, 2, 20, 22] [(0, pt d), (2, .bool false), (20, .bool (decide ((lf - 1) = 0))), (22, .pointer (some ⟨d, 3, none⟩))] 3 ?_
    refine RunR.st none (.store 4 (.tmp 22) (.tmp 20)) (Step.store_blk hU 0 d 3 70 [.slice A n c, .slice Wa m wc, .int .i64 (lf - 1), .bool dn] (.bool (decide ((lf - 1) = 0))) (by kernel_rfl) (by kernel_rfl) (by kernel_rfl) 1 rfl [.bool (decide ((lf - 1) = 0))] (by kernel_rfl) rfl (by kernel_rfl) (by simp) ?_)
    refine RunR.nx ?_
    refine RunR.sl hU [] 3 3 [2, 25] [(2, .bool false), (25, .pointer (some ⟨d, 3, none⟩))] 3 ?_
    refine RunR.st (some 26) (.load 4 (.tmp 25)) (Step.load_blk hU 0 d (3) 70 [.slice A n c, .slice Wa m wc, .int .i64 (lf - 1), .bool (decide ((lf - 1) = 0))] (.bool (decide ((lf - 1) = 0))) (by kernel_rfl) (by kernel_rfl) (by kernel_rfl) (by kernel_rfl) ?_)
    refine RunR.sl hU [] 1 5 [2] [(2, .bool (decide ((lf - 1) = 0)))] 1 ?_
    refine RunR.nn ?_
    refine RunC.ret ?_
    refine kret_r [.bool (decide ((lf - 1) = 0))] [0] [blk d 70 [.slice A n c, .slice Wa m wc, .int .i64 (lf - 1), .bool (decide ((lf - 1) = 0))]] ⟨rfl, trivial⟩ (by kernel_rfl) rfl ⟨(lf - 1), (decide ((lf - 1) = 0)), rfl, rfl, (by rw [actP, if_pos (by assumption)]), (by omega)⟩
  · skip
    refine RunC.ksr ?_
    refine RunR.sl hU [] 3 3 [2, 25] [(2, .bool false), (25, .pointer (some ⟨d, 3, none⟩))] 3 ?_
    refine RunR.st (some 26) (.load 4 (.tmp 25)) (Step.load_blk hU 0 d (3) 70 [.slice A n c, .slice Wa m wc, .int .i64 lf, .bool dn] (.bool dn) (by kernel_rfl) (by kernel_rfl) (by kernel_rfl) (by kernel_rfl) ?_)
    refine RunR.sl hU [] 1 5 [2] [(2, .bool dn)] 1 ?_
    refine RunR.nn ?_
    refine RunC.ret ?_
    refine kret_r [.bool dn] [0] [blk d 70 [.slice A n c, .slice Wa m wc, .int .i64 lf, .bool dn]] ⟨rfl, trivial⟩ (by kernel_rfl) rfl ⟨lf, dn, rfl, rfl, (by rw [actP, if_neg (by assumption)]), (by omega)⟩

theorem d_Down_spec (d : Nat) (A : Option Addr) (n : Nat) (c : Nat) (Wa : Option Addr) (m : Nat) (wc : Nat) (lf : Int) (dn : Bool) :
    CallsS Try.prog 22 [pt d] [blk d 70 [.slice A n c, .slice Wa m wc, .int .i64 lf, .bool dn]] (fun r D => r = .bool dn ∧ D = [blk d 70 [.slice A n c, .slice Wa m wc, .int .i64 lf, .bool dn]]) := by
  refine CallsS.enter hU Try.f22 _ [.tmp 2] 7 Try.func22 rfl (by decide) rfl rfl (by kernel_rfl) fun w0 W => ?_
  refine RunC.sr ?_
  refine RunR.sl hU [] 1 1 [0, 2] [(0, pt d), (2, .bool false)] 1 ?_
  refine RunR.nx ?_
  refine RunR.sl hU [] 3 3 [2, 5] [(2, .bool false), (5, .pointer (some ⟨d, 3, none⟩))] 3 ?_
  refine RunR.st (some 6) (.load 4 (.tmp 5)) (Step.load_blk hU 0 d (3) 70 [.slice A n c, .slice Wa m wc, .int .i64 lf, .bool dn] (.bool dn) (by kernel_rfl) (by kernel_rfl) (by kernel_rfl) (by kernel_rfl) ?_)
  refine RunR.sl hU [] 1 5 [2] [(2, .bool dn)] 1 ?_
  refine RunR.nn ?_
  refine RunC.ret ?_
  refine kret_r [.bool dn] [0] [blk d 70 [.slice A n c, .slice Wa m wc, .int .i64 lf, .bool dn]] ⟨rfl, trivial⟩ (by kernel_rfl) rfl ⟨rfl, rfl⟩

theorem d_Arm_spec (d : Nat) (A : Option Addr) (n : Nat) (c : Nat) (Wa : Option Addr) (m : Nat) (wc : Nat) (lf : Int) (dn : Bool) (x : Int) (hx : fits .i64 x) :
    CallsS Try.prog 20 [pt d, .int .i64 x] [blk d 70 [.slice A n c, .slice Wa m wc, .int .i64 lf, .bool dn]] (fun r D => ∃ (lf2 : Int), r = .tuple #[] ∧ D = [blk d 70 [.slice A n c, .slice Wa m wc, .int .i64 lf2, .bool dn]] ∧ (lf2 = max x 0) ∧ (0 ≤ lf2 ∧ lf2 < 9223372036854775808)) := by
  refine CallsS.enter hU Try.f20 _ [] 9 Try.func20 rfl (by decide) rfl rfl (by kernel_rfl) fun w0 W => ?_
  have hx2 := hx; simp only [fits] at hx2
  refine RunC.region ?_
  have hm1 : ((if 0 > x then 0 else x) = x ∨ (if 0 > x then 0 else x) = (0 : Int)) ∧ (if 0 > x then 0 else x) ≥ x ∧ (if 0 > x then 0 else x) ≥ (0 : Int) := by split <;> omega
  refine RunR.sl hU [] 5 5 [6, 8] [(6, .int .i64 (if 0 > x then 0 else x)), (8, .pointer (some ⟨d, 2, none⟩))] 5 ?_
  refine RunR.st none (.store 3 (.tmp 8) (.tmp 6)) (Step.store_blk hU 0 d 2 70 [.slice A n c, .slice Wa m wc, .int .i64 lf, .bool dn] (.int .i64 (if 0 > x then 0 else x)) (by kernel_rfl) (by kernel_rfl) (by kernel_rfl) 1 rfl [.int .i64 (if 0 > x then 0 else x)] (by kernel_rfl) rfl (by kernel_rfl) (by simp) ?_)
  refine RunR.dn ?_
  refine kret_n [] [0] [blk d 70 [.slice A n c, .slice Wa m wc, .int .i64 (if 0 > x then 0 else x), .bool dn]] trivial (by kernel_rfl) rfl ⟨(if 0 > x then 0 else x), rfl, rfl, (by omega), (by omega)⟩

theorem d_Image_spec (d : Nat) (A : Option Addr) (n : Nat) (c : Nat) (ss : List Int) (Wa : Option Addr) (m : Nat) (wc : Nat) (lf : Int) (dn : Bool) (hss : In .u8 ss) (hnl : ss.length = n) (hnc : n ≤ c) (hAs : 0 < n → Option.isSome A = true) (hn6 : n % 256 = 0) (hnb : n ≤ 557056) :
    CallsS Try.prog 25 [pt d] [blk d 70 [.slice A n c, .slice Wa m wc, .int .i64 lf, .bool dn], row 5 1 (.slice A n c) n (nums .u8 ss)] (fun r D => ∃ (A9 : Option Addr) (c9 : Nat) (zs : List Int), r = .slice A9 zs.length c9 ∧ D = [row 5 1 (.slice A9 zs.length c9) zs.length (nums .u8 zs), blk d 70 [.slice A n c, .slice Wa m wc, .int .i64 lf, .bool dn], row 5 1 (.slice A n c) n (nums .u8 ss)] ∧ (zs = ss) ∧ (zs.length = n) ∧ (In .u8 zs) ∧ (zs.length ≤ c9) ∧ (0 < zs.length → Option.isSome A9 = true)) := by
  refine CallsS.enter hU Try.f25 _ [.tmp 2] 8 Try.func25 rfl (by decide) rfl rfl (by kernel_rfl) fun w0 W => ?_
  refine RunC.sr ?_
  refine RunR.sl hU [] 1 1 [0, 2] [(0, pt d), (2, .slice none 0 0)] 1 ?_
  refine RunR.nx ?_
  refine RunR.sl hU [] 3 3 [2, 5] [(2, .slice none 0 0), (5, pt d)] 3 ?_
  refine RunR.st (some 6) (.load 23 (.tmp 5)) (Step.load_blk hU 0 d (0) 70 [.slice A n c, .slice Wa m wc, .int .i64 lf, .bool dn] (.slice A n c) (by kernel_rfl) (by kernel_rfl) (by kernel_rfl) (by kernel_rfl) ?_)
  refine RunR.st (some 7) (.call { callee := .value (.func 51), args := #[.tmp 6], argTypes := #[23] }) (Step.cl 51 [.slice A n c] [] [vw A (nums .u8 ss)] [blk d 70 [.slice A n c, .slice Wa m wc, .int .i64 lf, .bool dn], row 5 1 (.slice A n c) n (nums .u8 ss)] (d_Clone_spec A c ss n hss (by omega) (by omega) (by assumption)) [] ((Lend.nil _).tells 1 (row 5 1 (.slice A n c) n (nums .u8 ss)) A (nums .u8 ss) (by kernel_rfl) (tells_row _ _ _ _ _ _)) ?_)
  rintro _ _ ⟨A91, c92, zs3, rfl, rfl, hp4, hp5, hp6, hp7, hp8⟩
  refine RunR.sl hU [] 1 6 [2] [(2, .slice A91 zs3.length c92)] 1 ?_
  refine RunR.nn ?_
  refine RunC.ret ?_
  refine kret_r [.slice A91 zs3.length c92] [0, 0, 0] [row 5 1 (.slice A91 zs3.length c92) zs3.length (nums .u8 zs3), blk d 70 [.slice A n c, .slice Wa m wc, .int .i64 lf, .bool dn], row 5 1 (.slice A n c) n (nums .u8 ss)] ⟨rfl, trivial⟩ (by kernel_rfl) rfl ⟨A91, c92, zs3, rfl, rfl, (by assumption), (by omega), hp6, (by assumption), (fun h => hp8 (by exact h))⟩

theorem d_New_spec (x : Int) (hx : fits .i64 x) :
    CallsS Try.prog 13 [.int .i64 x] [] (fun r D => ∃ (d2 : Nat) (A9 : Option Addr) (n9 : Nat) (c9 : Nat) (zs : List Int), r = pt d2 ∧ D = [blk d2 70 [.slice A9 n9 c9, .slice none 0 0, .int .i64 0, .bool false], row 5 1 (.slice A9 n9 c9) n9 (nums .u8 zs), row 51 2 (.slice none 0 0) 0 (chV ([] : List Ch)), chd .u8 ([] : List Ch)] ∧ (In .u8 zs) ∧ (zs.length = n9) ∧ (n9 ≤ c9) ∧ (0 < n9 → Option.isSome A9 = true) ∧ (n9 % 256 = 0) ∧ (n9 ≤ 557056) ∧ (zs = List.replicate n9 0) ∧ ((n9 : Int) = 256 * max 0 (min x 2176))) := by
  refine CallsS.enter hU Try.f13 _ [.tmp 2] 10 Try.func13 rfl (by decide) rfl rfl (by kernel_rfl) fun w0 W => ?_
  have hx2 := hx; simp only [fits] at hx2
  refine RunC.sr ?_
  refine RunR.sl hU [] 1 1 [0, 2] [(0, .int .i64 x), (2, .pointer none)] 1 ?_
  refine RunR.nx ?_
  have hm1 : ((if 0 > x then 0 else x) = x ∨ (if 0 > x then 0 else x) = (0 : Int)) ∧ (if 0 > x then 0 else x) ≥ x ∧ (if 0 > x then 0 else x) ≥ (0 : Int) := by split <;> omega
  have hm2 : ((if 2176 < (if 0 > x then 0 else x) then 2176 else if 0 > x then 0 else x) = (if 0 > x then 0 else x) ∨ (if 2176 < (if 0 > x then 0 else x) then 2176 else if 0 > x then 0 else x) = (2176 : Int)) ∧ (if 2176 < (if 0 > x then 0 else x) then 2176 else if 0 > x then 0 else x) ≤ (if 0 > x then 0 else x) ∧ (if 2176 < (if 0 > x then 0 else x) then 2176 else if 0 > x then 0 else x) ≤ (2176 : Int) := by split <;> omega
  refine RunR.sil hU [3] 4 4 [2, 6] [(2, .pointer none), (6, .int .i64 (256 * (if 2176 < (if 0 > x then 0 else x) then 2176 else if 0 > x then 0 else x)))] ((True) ∧ (True) ∧ (True) ∧ (-9223372036854775808 ≤ (256 * (if 2176 < (if 0 > x then 0 else x) then 2176 else if 0 > x then 0 else x)) ∧ (256 * (if 2176 < (if 0 > x then 0 else x) then 2176 else if 0 > x then 0 else x)) < 9223372036854775808) ∧ True) rfl (by kernel_rfl) ⟨trivial, trivial, trivial, (by omega), trivial⟩ ?_
  refine RunR.st (some 7) (.makeSlice 23 (.tmp 6) (.tmp 6)) (Step.make_nums hU 5 1 .u8 .i64 .i64 (256 * (if 2176 < (if 0 > x then 0 else x) then 2176 else if 0 > x then 0 else x)) rfl rfl (by kernel_rfl) (by kernel_rfl) (by omega) (by omega) (by kernel_rfl) (fun b3 => ?_))
  have hl4 : (List.replicate ((256 * (if 2176 < (if 0 > x then 0 else x) then 2176 else if 0 > x then 0 else x)).toNat) (0 : Int)).length = (256 * (if 2176 < (if 0 > x then 0 else x) then 2176 else if 0 > x then 0 else x)).toNat := List.length_replicate
  refine RunR.sl hU [] 1 6 [2, 8] [(2, .pointer none), (8, .agg #[.slice (some ⟨b3, 0, none⟩) ((256 * (if 2176 < (if 0 > x then 0 else x) then 2176 else if 0 > x then 0 else x)).toNat) ((256 * (if 2176 < (if 0 > x then 0 else x) then 2176 else if 0 > x then 0 else x)).toNat), .slice none 0 0, .int .i64 0, .bool false])] 1 ?_
  refine RunR.st (some 9) (.box 70 (.tmp 8)) (Step.box (.agg #[.slice (some ⟨b3, 0, none⟩) ((256 * (if 2176 < (if 0 > x then 0 else x) then 2176 else if 0 > x then 0 else x)).toNat) ((256 * (if 2176 < (if 0 > x then 0 else x) then 2176 else if 0 > x then 0 else x)).toNat), .slice none 0 0, .int .i64 0, .bool false]) (by kernel_rfl) (by kernel_rfl) (fun b5 => ?_))
  refine RunR.sl hU [] 1 8 [2] [(2, pt b5)] 1 ?_
  refine RunR.nn ?_
  refine RunC.ret ?_
  refine kret_rt ([chd .u8 ([] : List Ch), row 51 2 (.slice none 0 0) 0 (chV ([] : List Ch)), blk b5 70 [.slice (some ⟨b3, 0, none⟩) ((256 * (if 2176 < (if 0 > x then 0 else x) then 2176 else if 0 > x then 0 else x)).toNat) ((256 * (if 2176 < (if 0 > x then 0 else x) then 2176 else if 0 > x then 0 else x)).toNat), .slice none 0 0, .int .i64 0, .bool false], row 5 1 (.slice (some ⟨b3, 0, none⟩) ((256 * (if 2176 < (if 0 > x then 0 else x) then 2176 else if 0 > x then 0 else x)).toNat) ((256 * (if 2176 < (if 0 > x then 0 else x) then 2176 else if 0 > x then 0 else x)).toNat)) ((256 * (if 2176 < (if 0 > x then 0 else x) then 2176 else if 0 > x then 0 else x)).toNat) (nums .u8 (List.replicate ((256 * (if 2176 < (if 0 > x then 0 else x) then 2176 else if 0 > x then 0 else x)).toNat) (0 : Int)))]) (fun w0 W w hs => ((hs).nil_row 51 2).chd0 .u8) [pt b5] [2, 2, 1, 0] [blk b5 70 [.slice (some ⟨b3, 0, none⟩) ((256 * (if 2176 < (if 0 > x then 0 else x) then 2176 else if 0 > x then 0 else x)).toNat) ((256 * (if 2176 < (if 0 > x then 0 else x) then 2176 else if 0 > x then 0 else x)).toNat), .slice none 0 0, .int .i64 0, .bool false], row 5 1 (.slice (some ⟨b3, 0, none⟩) ((256 * (if 2176 < (if 0 > x then 0 else x) then 2176 else if 0 > x then 0 else x)).toNat) ((256 * (if 2176 < (if 0 > x then 0 else x) then 2176 else if 0 > x then 0 else x)).toNat)) ((256 * (if 2176 < (if 0 > x then 0 else x) then 2176 else if 0 > x then 0 else x)).toNat) (nums .u8 (List.replicate ((256 * (if 2176 < (if 0 > x then 0 else x) then 2176 else if 0 > x then 0 else x)).toNat) (0 : Int))), row 51 2 (.slice none 0 0) 0 (chV ([] : List Ch)), chd .u8 ([] : List Ch)] ⟨rfl, trivial⟩ (by kernel_rfl) rfl ⟨b5, (some ⟨b3, 0, none⟩), ((256 * (if 2176 < (if 0 > x then 0 else x) then 2176 else if 0 > x then 0 else x)).toNat), ((256 * (if 2176 < (if 0 > x then 0 else x) then 2176 else if 0 > x then 0 else x)).toNat), (List.replicate ((256 * (if 2176 < (if 0 > x then 0 else x) then 2176 else if 0 > x then 0 else x)).toNat) (0 : Int)), rfl, rfl, (by exact In.replicate _ _), (by exact List.length_replicate), (by exact Nat.le_refl _), (by intro _; rfl), (by omega), (by omega), (by rfl), (by omega)⟩

theorem d_Full_spec (A8 : Option Addr) (c8 : Nat) (bs : List Int) (l_bs : Nat) (hIbs : In .u8 bs) (hCbs : bs.length ≤ c8) (hBbs : bs.length ≤ 140737488351232) (hl_bs : bs.length = l_bs) :
    CallsS Try.prog 39 [.slice A8 l_bs c8] [vw A8 (nums .u8 bs)] (fun r D => ∃ (A9 : Option Addr) (c9 : Nat) (zs : List Int), r = .slice A9 256 c9 ∧ D = [row 5 1 (.slice A9 256 c9) 256 (nums .u8 zs)] ∧ (zs = fullL bs) ∧ (zs.length = 256) ∧ (In .u8 zs) ∧ (256 ≤ c9) ∧ (0 < 256 → Option.isSome A9 = true)) := by
  subst hl_bs
  refine CallsS.enter hU Try.f39 _ [.tmp 2] 26 Try.func39 rfl (by decide) rfl rfl (by kernel_rfl) fun w0 W => ?_
  refine RunC.know (p := 0 < bs.length → Option.isSome A8 = true) (fun _ _ w hs => vw_some hs 0 rfl (by (simp [nums_length]; done))) (fun hA1 => ?_)
  refine RunC.sr ?_
  refine RunR.sl hU [] 1 1 [0, 2] [(0, .slice A8 bs.length c8), (2, .slice none 0 0)] 1 ?_
  refine RunR.nx ?_
  refine RunR.st (some 5) (.buildSlice 23 0 #[]) (Step.lit_nums hU 5 1 .u8 (.int .u8 0) ([] : List Int) rfl rfl (by kernel_rfl) rfl rfl (by kernel_rfl) (fun b2 => ?_))
  have hl3 : (([] : List Int)).length = 0 := rfl
  refine RunR.sl hU [] 1 2 [0, 2, 5, 6] [(0, .slice A8 bs.length c8), (2, .slice none 0 0), (5, .slice (some ⟨b2, 0, none⟩) 0 0), (6, .slice A8 bs.length c8)] 1 ?_
  have hl8 : (([] : List Int)).length = 0 := rfl
  refine RunR.st (some 7) (.call { callee := .builtin .append, args := #[.tmp 5, .tmp 6], argTypes := #[23, 23] }) (Step.append_nums hU 5 1 (.int .u8 0) .u8 0 1 (some ⟨b2, 0, none⟩) 0 0 ([] : List Int) A8 bs.length c8 (vw A8 (nums .u8 bs)) bs rfl rfl rfl (by kernel_rfl) (by kernel_rfl) (by kernel_rfl) (by kernel_rfl) (tells_vw _ _) (by rfl) (by rfl) (by omega) (by omega) (by kernel_rfl) (fun Aq4 cq5 hc6 hA7 => ?_))
  simp only [List.nil_append] at hc6 hA7
  refine RunR.sl hU [] 1 4 [0, 2, 3] [(0, .slice A8 bs.length c8), (2, .slice none 0 0), (3, .slice Aq4 bs.length cq5)] 1 ?_
  refine RunR.nn ?_
  refine RunC.seq ?_
  refine RunC.block ?_
  refine RunC.env [0, 2, 3] [(0, .slice A8 bs.length c8), (2, .slice none 0 0), (3, .slice Aq4 bs.length cq5)] (by kernel_rfl) ?_
  refine RunC.only [0, 0] [row 5 1 (.slice Aq4 bs.length cq5) bs.length (nums .u8 bs), vw A8 (nums .u8 bs)] (by kernel_rfl) ?_
  refine RunC.loop (σ := Nat) (fun n_ t_ D_ => ∃ (j : Nat) (os : List Int) (A5 : Option Addr) (c5 : Nat), (os = bs ++ List.replicate j (bs.getD (bs.length - 1) 0)) ∧ (j = 0 ∨ bs.length + j ≤ 256) ∧ (os.length = bs.length + j) ∧ (In .u8 os) ∧ (os.length ≤ c5) ∧ (0 < os.length → Option.isSome A5 = true) ∧ n_ = (256 - os.length : Nat) ∧ t_ = [(0, .slice A8 bs.length c8), (2, .slice none 0 0), (3, .slice A5 os.length c5)] ∧ D_ = [row 5 1 (.slice A5 os.length c5) os.length (nums .u8 os), vw A8 (nums .u8 bs)]) id _ ⟨0, bs, Aq4, cq5, (by rw [List.replicate_zero, List.append_nil]), (by exact .inl rfl), (by rfl), hIbs, (by assumption), (fun h => hA7 (by exact h)), rfl, rfl, rfl⟩ ?_
  rintro n_ _ _ ⟨j, os, A5, c5, ho, hj, hol, hios, hcos, hAos, rfl, rfl, rfl⟩
  refine RunC.seq ?_
  refine RunC.sr ?_
  refine RunR.sl hU [] 3 3 [0, 2, 3, 10] [(0, .slice A8 bs.length c8), (2, .slice none 0 0), (3, .slice A5 os.length c5), (10, .bool (decide (((os.length : Nat) : Int) < 256)))] 3 ?_
  refine RunR.nn ?_
  refine RunC.condp (((os.length : Nat) : Int) < 256) (by kernel_rfl) (fun h9 => ?_) (fun h9 => ?_)
  · skip
    refine RunC.ks ?_
    refine RunC.block ?_
    refine RunC.sr ?_
    refine RunR.sl hU [] 1 1 [0, 2, 3, 4] [(0, .slice A8 bs.length c8), (2, .slice none 0 0), (3, .slice A5 os.length c5), (4, .int .u8 0)] 1 ?_
    refine RunR.nn ?_
    refine RunC.seq ?_
    refine RunC.sr ?_
    refine RunR.sl hU [] 3 3 [0, 2, 3, 4, 13] [(0, .slice A8 bs.length c8), (2, .slice none 0 0), (3, .slice A5 os.length c5), (4, .int .u8 0), (13, .bool (decide (((bs.length : Nat) : Int) > 0)))] 3 ?_
    refine RunR.nn ?_
    refine RunC.condp (((bs.length : Nat) : Int) > 0) (by kernel_rfl) (fun h10 => ?_) (fun h10 => ?_)
    · skip
      refine RunC.region ?_
      refine RunR.sil hU [3] 5 5 [0, 2, 3, 4, 18] [(0, .slice A8 bs.length c8), (2, .slice none 0 0), (3, .slice A5 os.length c5), (4, .int .u8 0), (18, .pointer (elemAt A8 (((bs.length : Nat) : Int) - 1) 1))] ((True) ∧ (True) ∧ (True) ∧ (-9223372036854775808 ≤ (((bs.length : Nat) : Int) - 1) ∧ (((bs.length : Nat) : Int) - 1) < 9223372036854775808) ∧ ((0 ≤ (((bs.length : Nat) : Int) - 1) ∧ (((bs.length : Nat) : Int) - 1) < ((bs.length : Nat) : Int)) ∧ Option.isSome A8 = true) ∧ True) rfl (by kernel_rfl) ⟨trivial, trivial, trivial, (by omega), ⟨by omega, hA1 (by omega)⟩, trivial⟩ ?_
      refine RunR.st (some 19) (.load 5 (.tmp 18)) (Step.load_num hU 1 (vw A8 (nums .u8 bs)) A8 (((bs.length : Nat) : Int) - 1) .u8 bs rfl (by kernel_rfl) (by kernel_rfl) (tells_vw _ _) (by kernel_rfl) (by omega) ?_)
      have hb11 : 0 ≤ bs.getD ((((bs.length : Nat) : Int) - 1).toNat) 0 ∧ bs.getD ((((bs.length : Nat) : Int) - 1).toNat) 0 < 256 := hIbs.at_ _
      refine RunR.sl hU [] 1 7 [0, 2, 3, 4] [(0, .slice A8 bs.length c8), (2, .slice none 0 0), (3, .slice A5 os.length c5), (4, .int .u8 (bs.getD (((bs.length : Nat) : Int) - 1).toNat 0))] 1 ?_
      refine RunR.nn ?_
      refine RunC.region ?_
      refine RunR.sl hU [] 2 2 [0, 2, 3, 20, 21] [(0, .slice A8 bs.length c8), (2, .slice none 0 0), (3, .slice A5 os.length c5), (20, .slice A5 os.length c5), (21, .int .u8 (bs.getD (((bs.length : Nat) : Int) - 1).toNat 0))] 2 ?_
      refine RunR.st (some 22) (.buildSlice 23 1 #[(0, .tmp 21)]) (Step.lit_nums hU 5 1 .u8 (.int .u8 0) ([bs.getD (((bs.length : Nat) : Int) - 1).toNat 0] : List Int) rfl rfl (by kernel_rfl) rfl rfl (by kernel_rfl) (fun b12 => ?_))
      have hl13 : (([bs.getD (((bs.length : Nat) : Int) - 1).toNat 0] : List Int)).length = 1 := rfl
      have hl18 : (([bs.getD (((bs.length : Nat) : Int) - 1).toNat 0] : List Int)).length = 1 := rfl
      refine RunR.st (some 23) (.call { callee := .builtin .append, args := #[.tmp 20, .tmp 22], argTypes := #[23, 23] }) (Step.append_nums hU 5 1 (.int .u8 0) .u8 1 0 A5 os.length c5 os (some ⟨b12, 0, none⟩) 1 1 (row 5 1 (.slice (some ⟨b12, 0, none⟩) 1 1) 1 (nums .u8 ([bs.getD (((bs.length : Nat) : Int) - 1).toNat 0] : List Int))) ([bs.getD (((bs.length : Nat) : Int) - 1).toNat 0] : List Int) rfl rfl rfl (by kernel_rfl) (by kernel_rfl) (by kernel_rfl) (by kernel_rfl) (tells_row _ _ _ _ _ _) (by rfl) (by rfl) (by omega) (by omega) (by kernel_rfl) (fun Aq14 cq15 hc16 hA17 => ?_))
      have hl19 : (os ++ ([bs.getD (((bs.length : Nat) : Int) - 1).toNat 0] : List Int)).length = os.length + ([bs.getD (((bs.length : Nat) : Int) - 1).toNat 0] : List Int).length := List.length_append
      simp only [List.length_cons, List.length_nil] at hl19
      refine RunR.sl hU [] 1 5 [0, 2, 3] [(0, .slice A8 bs.length c8), (2, .slice none 0 0), (3, .slice Aq14 ((os ++ ([bs.getD (((bs.length : Nat) : Int) - 1).toNat 0] : List Int)).length) cq15)] 1 ?_
      refine RunR.dn ?_
      refine kblock_n ?_
      refine kloop_n _ [0, 2, 3] [0, 1] [(0, .slice A8 bs.length c8), (2, .slice none 0 0), (3, .slice Aq14 ((os ++ ([bs.getD (((bs.length : Nat) : Int) - 1).toNat 0] : List Int)).length) cq15)] [row 5 1 (.slice Aq14 ((os ++ ([bs.getD (((bs.length : Nat) : Int) - 1).toNat 0] : List Int)).length) cq15) ((os ++ ([bs.getD (((bs.length : Nat) : Int) - 1).toNat 0] : List Int)).length) (nums .u8 (os ++ ([bs.getD (((bs.length : Nat) : Int) - 1).toNat 0] : List Int))), vw A8 (nums .u8 bs)] (by kernel_rfl) (by kernel_rfl) ?_ ⟨(j + 1), (os ++ ([bs.getD (((bs.length : Nat) : Int) - 1).toNat 0] : List Int)), Aq14, cq15, (by rw [ho, List.append_assoc, List.replicate_succ']; (rw [show ((bs.length : Int) - 1).toNat = bs.length - 1 by omega])), (by omega), (by rw [List.length_append]; simp; omega), (by (repeat first | assumption | with_reducible first | exact In.nil _ | apply In.append | apply In.cons)), (by assumption), (fun h => hA17 (by exact h)), rfl, (by rfl), (by rfl)⟩
      show (256 - (os ++ ([bs.getD (((bs.length : Nat) : Int) - 1).toNat 0] : List Int)).length : Nat) < (256 - os.length : Nat)
      simp only [List.length_append, List.length_cons, List.length_nil]; omega
    · skip
      refine RunC.ks ?_
      refine RunC.region ?_
      refine RunR.sl hU [] 2 2 [0, 2, 3, 20, 21] [(0, .slice A8 bs.length c8), (2, .slice none 0 0), (3, .slice A5 os.length c5), (20, .slice A5 os.length c5), (21, .int .u8 0)] 2 ?_
      refine RunR.st (some 22) (.buildSlice 23 1 #[(0, .tmp 21)]) (Step.lit_nums hU 5 1 .u8 (.int .u8 0) ([0] : List Int) rfl rfl (by kernel_rfl) rfl rfl (by kernel_rfl) (fun b20 => ?_))
      have hl21 : (([0] : List Int)).length = 1 := rfl
      have hl26 : (([0] : List Int)).length = 1 := rfl
      refine RunR.st (some 23) (.call { callee := .builtin .append, args := #[.tmp 20, .tmp 22], argTypes := #[23, 23] }) (Step.append_nums hU 5 1 (.int .u8 0) .u8 1 0 A5 os.length c5 os (some ⟨b20, 0, none⟩) 1 1 (row 5 1 (.slice (some ⟨b20, 0, none⟩) 1 1) 1 (nums .u8 ([0] : List Int))) ([0] : List Int) rfl rfl rfl (by kernel_rfl) (by kernel_rfl) (by kernel_rfl) (by kernel_rfl) (tells_row _ _ _ _ _ _) (by rfl) (by rfl) (by omega) (by omega) (by kernel_rfl) (fun Aq22 cq23 hc24 hA25 => ?_))
      have hl27 : (os ++ ([0] : List Int)).length = os.length + ([0] : List Int).length := List.length_append
      simp only [List.length_cons, List.length_nil] at hl27
      refine RunR.sl hU [] 1 5 [0, 2, 3] [(0, .slice A8 bs.length c8), (2, .slice none 0 0), (3, .slice Aq22 ((os ++ ([0] : List Int)).length) cq23)] 1 ?_
      refine RunR.dn ?_
      refine kblock_n ?_
      refine kloop_n _ [0, 2, 3] [0, 1] [(0, .slice A8 bs.length c8), (2, .slice none 0 0), (3, .slice Aq22 ((os ++ ([0] : List Int)).length) cq23)] [row 5 1 (.slice Aq22 ((os ++ ([0] : List Int)).length) cq23) ((os ++ ([0] : List Int)).length) (nums .u8 (os ++ ([0] : List Int))), vw A8 (nums .u8 bs)] (by kernel_rfl) (by kernel_rfl) ?_ ⟨(j + 1), (os ++ ([0] : List Int)), Aq22, cq23, (by rw [ho, List.append_assoc, List.replicate_succ']; (rw [nil_of_len0 (xs := bs) (by omega)]; rfl)), (by omega), (by rw [List.length_append]; simp; omega), (by (repeat first | assumption | (simp only [fits]; omega) | with_reducible first | exact In.nil _ | apply In.append | apply In.cons)), (by assumption), (fun h => hA25 (by exact h)), rfl, (by rfl), (by rfl)⟩
      show (256 - (os ++ ([0] : List Int)).length : Nat) < (256 - os.length : Nat)
      simp only [List.length_append, List.length_cons, List.length_nil]; omega
  · skip
    refine RunC.exit ?_
    refine kseq_e ?_
    refine kloop_e ?_
    refine kblock_e ?_
    refine kseq_n ?_
    refine RunC.sr ?_
    refine RunR.sil hU [] 2 2 [2, 25] [(2, .slice none 0 0), (25, .slice A5 256 c5)] ((True) ∧ (0 ≤ (256 : Int) ∧ (256 : Int) ≤ ((c5 : Nat) : Int)) ∧ True) rfl (by kernel_rfl) ⟨trivial, (by omega), trivial⟩ ?_
    obtain ⟨zs28, hz29⟩ : ∃ z : List Int, z = os.take 256 := ⟨_, rfl⟩
    have hl30 : zs28.length = 256 := by rw [hz29, List.length_take]; omega
    have hB31_t : Tells (row 5 1 (.slice A5 os.length c5) os.length (nums .u8 os)) (A5) (nums .u8 zs28) := by rw [hz29]; exact tells_take_nums (tells_row _ _ _ _ _ _) _
    refine RunR.ev [2, 25] [(2, .slice none 0 0), (25, .slice A5 256 c5)] ?_
    refine RunR.enveq [(2, .slice none 0 0), (25, .slice A5 zs28.length c5)] (by rw [hl30]) ?_
    have hr32 : In .u8 zs28 := by rw [hz29]; exact hios.take _
    refine RunR.sl hU [] 1 3 [2] [(2, .slice A5 zs28.length c5)] 1 ?_
    refine RunR.nn ?_
    refine RunC.ret ?_
    refine kret_rt ([row 5 1 (.slice A5 256 c5) 256 (nums .u8 (os.take 256)), vw A8 (nums .u8 bs)]) (fun w0 W w hs => hs.rowCutN 0 256 rfl (by omega)) [.slice A5 zs28.length c5] [0] [row 5 1 (.slice A5 256 c5) 256 (nums .u8 (os.take 256))] ⟨rfl, trivial⟩ (by kernel_rfl) rfl ⟨A5, c5, (os.take 256), (by (exact congrArg (fun n => Value.slice _ n _) (by omega))), (by rfl), (by rw [ho]; exact full_end hj (by omega)), (by rw [List.length_take]; omega), (by exact hios.take _), (by omega), (by intro _; exact hAos (by omega))⟩

theorem d_Load_spec (A8 : Option Addr) (c8 : Nat) (bs : List Int) (l_bs : Nat) (hIbs : In .u8 bs) (hCbs : bs.length ≤ c8) (hBbs : bs.length ≤ 140737488351232) (hl_bs : bs.length = l_bs) :
    CallsS Try.prog 28 [.slice A8 l_bs c8] [vw A8 (nums .u8 bs)] (fun r D => (r = .tuple #[.pointer none, .int .i64 1] ∧ D = [] ∧ (¬ bs.length % 256 = 0 ∨ 557056 < bs.length)) ∨ (∃ (d2 : Nat) (A9 : Option Addr) (n9 : Nat) (c9 : Nat) (zs : List Int), r = .tuple #[pt d2, .int .i64 0] ∧ D = [blk d2 70 [.slice A9 n9 c9, .slice none 0 0, .int .i64 0, .bool false], row 5 1 (.slice A9 n9 c9) n9 (nums .u8 zs), row 51 2 (.slice none 0 0) 0 (chV ([] : List Ch)), chd .u8 ([] : List Ch)] ∧ (In .u8 zs) ∧ (zs.length = n9) ∧ (n9 ≤ c9) ∧ (0 < n9 → Option.isSome A9 = true) ∧ (n9 % 256 = 0) ∧ (n9 ≤ 557056) ∧ (zs = bs) ∧ (n9 = bs.length))) := by
  subst hl_bs
  refine CallsS.enter hU Try.f28 _ [.tmp 2, .tmp 3] 17 Try.func28 rfl (by decide) rfl rfl (by kernel_rfl) fun w0 W => ?_
  refine RunC.know (p := 0 < bs.length → Option.isSome A8 = true) (fun _ _ w hs => vw_some hs 0 rfl (by (simp [nums_length]; done))) (fun hA1 => ?_)
  refine RunC.sr ?_
  refine RunR.sl hU [] 2 2 [0, 2, 3] [(0, .slice A8 bs.length c8), (2, .pointer none), (3, .int .i64 0)] 2 ?_
  refine RunR.nn ?_
  refine RunC.seq ?_
  refine RunC.sr ?_
  refine RunR.sil hU [2] 5 5 [0, 2, 3, 8] [(0, .slice A8 bs.length c8), (2, .pointer none), (3, .int .i64 0), (8, .bool (!decide ((((bs.length : Nat) : Int) % (256 : Int)) = 0)))] ((True) ∧ (True) ∧ (0 ≤ ((bs.length : Nat) : Int) ∧ 0 < (256 : Int)) ∧ (True) ∧ (True) ∧ True) rfl (by kernel_rfl) ⟨trivial, trivial, (by omega), trivial, trivial, trivial⟩ ?_
  refine RunR.ev [0, 2, 3, 8] [(0, .slice A8 bs.length c8), (2, .pointer none), (3, .int .i64 0), (8, .bool (!decide ((((bs.length : Nat) : Int) % (256 : Int)) = 0)))] ?_
  by_cases h2 : (((bs.length : Nat) : Int) % (256 : Int)) = 0
  · skip
    refine RunR.enveq [(0, .slice A8 bs.length c8), (2, .pointer none), (3, .int .i64 0), (8, .bool false)] (by rw [decide_eq_true h2]; try rfl) ?_
    refine RunR.sl hU [] 4 9 [0, 2, 3, 12] [(0, .slice A8 bs.length c8), (2, .pointer none), (3, .int .i64 0), (12, .bool (decide (((bs.length : Nat) : Int) > 557056)))] 4 ?_
    refine RunR.nn ?_
    refine RunC.condp (((bs.length : Nat) : Int) > 557056) (by kernel_rfl) (fun h3 => ?_) (fun h3 => ?_)
    · skip
      refine RunC.sr ?_
      refine RunR.sl hU [] 2 2 [0, 2, 3] [(0, .slice A8 bs.length c8), (2, .pointer none), (3, .int .i64 1)] 2 ?_
      refine RunR.nn ?_
      refine RunC.ret ?_
      refine kseq_r ?_
      refine kret_r [.pointer none, .int .i64 1] [] [] ⟨rfl, rfl, trivial⟩ (by kernel_rfl) rfl (.inl ⟨rfl, rfl, (by omega)⟩)
    · skip
      refine RunC.ksr ?_
      refine RunR.sl hU [] 1 1 [2, 3, 13] [(2, .pointer none), (3, .int .i64 0), (13, .slice A8 bs.length c8)] 1 ?_
      refine RunR.st (some 14) (.call { callee := .value (.func 51), args := #[.tmp 13], argTypes := #[23] }) (Step.cl 51 [.slice A8 bs.length c8] [] [vw A8 (nums .u8 bs)] [vw A8 (nums .u8 bs)] (d_Clone_spec A8 c8 bs bs.length hIbs (by assumption) (by assumption) (by rfl)) [] ((Lend.nil _).tells 0 (vw A8 (nums .u8 bs)) A8 (nums .u8 bs) (by kernel_rfl) (tells_vw _ _)) ?_)
      rintro _ _ ⟨A94, c95, zs6, rfl, rfl, hp7, hp8, hp9, hp10, hp11⟩
      refine RunR.sl hU [] 1 3 [2, 3, 15] [(2, .pointer none), (3, .int .i64 0), (15, .agg #[.slice A94 zs6.length c95, .slice none 0 0, .int .i64 0, .bool false])] 1 ?_
      refine RunR.st (some 16) (.box 70 (.tmp 15)) (Step.box (.agg #[.slice A94 zs6.length c95, .slice none 0 0, .int .i64 0, .bool false]) (by kernel_rfl) (by kernel_rfl) (fun b12 => ?_))
      refine RunR.sl hU [] 2 6 [2, 3] [(2, pt b12), (3, .int .i64 0)] 2 ?_
      refine RunR.nn ?_
      refine RunC.ret ?_
      refine kret_rt ([chd .u8 ([] : List Ch), row 51 2 (.slice none 0 0) 0 (chV ([] : List Ch)), blk b12 70 [.slice A94 zs6.length c95, .slice none 0 0, .int .i64 0, .bool false], row 5 1 (.slice A94 zs6.length c95) zs6.length (nums .u8 zs6), vw A8 (nums .u8 bs)]) (fun w0 W w hs => ((hs).nil_row 51 2).chd0 .u8) [pt b12, .int .i64 0] [2, 2, 1, 0] [blk b12 70 [.slice A94 zs6.length c95, .slice none 0 0, .int .i64 0, .bool false], row 5 1 (.slice A94 zs6.length c95) zs6.length (nums .u8 zs6), row 51 2 (.slice none 0 0) 0 (chV ([] : List Ch)), chd .u8 ([] : List Ch)] ⟨rfl, rfl, trivial⟩ (by kernel_rfl) rfl (.inr ⟨b12, A94, zs6.length, c95, zs6, rfl, rfl, hp9, (by rfl), (by assumption), (fun h => hp11 (by exact h)), (by omega), (by omega), (by assumption), (by omega)⟩)
  · skip
    refine RunR.enveq [(0, .slice A8 bs.length c8), (2, .pointer none), (3, .int .i64 0), (8, .bool true)] (by rw [decide_eq_false h2]; try rfl) ?_
    refine RunR.sl hU [] 4 9 [0, 2, 3, 12] [(0, .slice A8 bs.length c8), (2, .pointer none), (3, .int .i64 0), (12, .bool true)] 1 ?_
    refine RunR.nn ?_
    refine RunC.cond (b := true) (by kernel_rfl) (fun _ => ?_) (fun h => by cases h)
    refine RunC.sr ?_
    refine RunR.sl hU [] 2 2 [0, 2, 3] [(0, .slice A8 bs.length c8), (2, .pointer none), (3, .int .i64 1)] 2 ?_
    refine RunR.nn ?_
    refine RunC.ret ?_
    refine kseq_r ?_
    refine kret_r [.pointer none, .int .i64 1] [] [] ⟨rfl, rfl, trivial⟩ (by kernel_rfl) rfl (.inl ⟨rfl, rfl, (by omega)⟩)
end Go.Proofs.Ytaaplakahkgclaa.X2
