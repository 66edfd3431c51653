/- What these functions compute: a contract for each, walked through its code. -/
import Derived.Test.YtaaplakahkgclaaSLzh
import Derived.Test.YtaaplakahkgclaaKPure
import Derived.Test.YtaaplakahkgclaaProg
import Derived.Test.YtaaplakahkgclaaX1
import Derived.Test.YtaaplakahkgclaaX2
import Derived.Test.YtaaplakahkgclaaX3
import Derived.Test.YtaaplakahkgclaaX4
import Derived.Test.YtaaplakahkgclaaX5
import Derived.Test.YtaaplakahkgclaaX6
import Derived.Test.YtaaplakahkgclaaX7
import Derived.Test.YtaaplakahkgclaaX8
import Derived.Test.YtaaplakahkgclaaX9
import Derived.Test.YtaaplakahkgclaaY1
import Derived.Test.YtaaplakahkgclaaY2
import Derived.Test.YtaaplakahkgclaaY3
import Derived.Test.YtaaplakahkgclaaY4
import Derived.Test.YtaaplakahkgclaaY5
import Derived.Test.YtaaplakahkgclaaY6
import Derived.Test.YtaaplakahkgclaaZ1
import Derived.Test.YtaaplakahkgclaaZ2
namespace Go.Proofs.Ytaaplakahkgclaa.Z3
open Go Go.Proofs.Ytaaplakahkgclaa.SL Go.Proofs.Ytaaplakahkgclaa.SL.W Go.Proofs.Ytaaplakahkgclaa.SL.F Go.Proofs.Ytaaplakahkgclaa.SL.N Go.Proofs.Ytaaplakahkgclaa.SL.E Go.Proofs.Ytaaplakahkgclaa.SL.K Go.Proofs.Ytaaplakahkgclaa.X1 Go.Proofs.Ytaaplakahkgclaa.X2 Go.Proofs.Ytaaplakahkgclaa.X3 Go.Proofs.Ytaaplakahkgclaa.X4 Go.Proofs.Ytaaplakahkgclaa.X5 Go.Proofs.Ytaaplakahkgclaa.X6 Go.Proofs.Ytaaplakahkgclaa.X7 Go.Proofs.Ytaaplakahkgclaa.X8 Go.Proofs.Ytaaplakahkgclaa.X9 Go.Proofs.Ytaaplakahkgclaa.Y1 Go.Proofs.Ytaaplakahkgclaa.Y2 Go.Proofs.Ytaaplakahkgclaa.Y3 Go.Proofs.Ytaaplakahkgclaa.Y4 Go.Proofs.Ytaaplakahkgclaa.Y5 Go.Proofs.Ytaaplakahkgclaa.Y6 Go.Proofs.Ytaaplakahkgclaa.Z1 Go.Proofs.Ytaaplakahkgclaa.Z2
set_option linter.unusedVariables false
set_option linter.unusedSimpArgs false
set_option maxRecDepth 100000
set_option maxHeartbeats 40000000
def U : Tab where
  und := [(3, .int .i64), (5, .int .u8), (23, .slice 5), (86, .int .u64), (87, .array 5 86), (88, .struct #[{ name := "n", type := 87, offset := 0, embedded := false, tag := "", pkgPath := "orlop/field", byteOffset := 0 }]), (89, .struct #[{ name := "n", type := 87, offset := 0, embedded := false, tag := "", pkgPath := "orlop/field", byteOffset := 0 }]), (107, .struct #[{ name := "u", type := 89, offset := 0, embedded := false, tag := "", pkgPath := "orlop/curve", byteOffset := 0 }, { name := "x2", type := 89, offset := 5, embedded := false, tag := "", pkgPath := "orlop/curve", byteOffset := 40 }, { name := "z2", type := 89, offset := 10, embedded := false, tag := "", pkgPath := "orlop/curve", byteOffset := 80 }, { name := "x3", type := 89, offset := 15, embedded := false, tag := "", pkgPath := "orlop/curve", byteOffset := 120 }, { name := "z3", type := 89, offset := 20, embedded := false, tag := "", pkgPath := "orlop/curve", byteOffset := 160 }]), (108, .struct #[{ name := "u", type := 89, offset := 0, embedded := false, tag := "", pkgPath := "orlop/curve", byteOffset := 0 }, { name := "x2", type := 89, offset := 5, embedded := false, tag := "", pkgPath := "orlop/curve", byteOffset := 40 }, { name := "z2", type := 89, offset := 10, embedded := false, tag := "", pkgPath := "orlop/curve", byteOffset := 80 }, { name := "x3", type := 89, offset := 15, embedded := false, tag := "", pkgPath := "orlop/curve", byteOffset := 120 }, { name := "z3", type := 89, offset := 20, embedded := false, tag := "", pkgPath := "orlop/curve", byteOffset := 160 }])]
  fld := [((88, 0), (0, 87)), ((89, 0), (0, 87)), ((107, 0), (0, 89)), ((107, 1), (5, 89)), ((107, 2), (10, 89)), ((107, 3), (15, 89)), ((107, 4), (20, 89)), ((108, 0), (0, 89)), ((108, 1), (5, 89)), ((108, 2), (10, 89)), ((108, 3), (15, 89)), ((108, 4), (20, 89))]
  sz := [(3, 1), (5, 1), (23, 1), (86, 1), (87, 5), (88, 5), (89, 5), (107, 25), (108, 25)]
  ti := [(3, (1, 8, .int .i64 0)), (5, (1, 1, .int .u8 0)), (23, (1, 24, .slice none 0 0)), (86, (1, 8, .int .u64 0)), (87, (5, 40, z5)), (88, (5, 40, z5)), (89, (5, 40, z5)), (107, (25, 200, .agg #[.int .u64 0, .int .u64 0, .int .u64 0, .int .u64 0, .int .u64 0, .int .u64 0, .int .u64 0, .int .u64 0, .int .u64 0, .int .u64 0, .int .u64 0, .int .u64 0, .int .u64 0, .int .u64 0, .int .u64 0, .int .u64 0, .int .u64 0, .int .u64 0, .int .u64 0, .int .u64 0, .int .u64 0, .int .u64 0, .int .u64 0, .int .u64 0, .int .u64 0])), (108, (25, 200, .agg #[.int .u64 0, .int .u64 0, .int .u64 0, .int .u64 0, .int .u64 0, .int .u64 0, .int .u64 0, .int .u64 0, .int .u64 0, .int .u64 0, .int .u64 0, .int .u64 0, .int .u64 0, .int .u64 0, .int .u64 0, .int .u64 0, .int .u64 0, .int .u64 0, .int .u64 0, .int .u64 0, .int .u64 0, .int .u64 0, .int .u64 0, .int .u64 0, .int .u64 0]))]
  bld := [(88, [(0, 5)]), (89, [(0, 5)]), (107, [(0, 5), (5, 5), (10, 5), (15, 5), (20, 5)]), (108, [(0, 5), (5, 5), (10, 5), (15, 5), (20, 5)])]

theorem hU : U.OK Try.prog where
  und := by
    intro p hp
    simp only [U, List.mem_cons, List.not_mem_nil, or_false] at hp
    rcases hp with rfl | rfl | rfl | rfl | rfl | rfl | rfl | rfl | rfl
    · exact Try.underlying3
    · exact Try.underlying5
    · exact Try.underlying23
    · exact Try.underlying86
    · exact Try.underlying87
    · exact Try.underlying88
    · exact Try.underlying89
    · exact Try.underlying107
    · exact Try.underlying108
  fld := by
    intro p hp
    simp only [U, List.mem_cons, List.not_mem_nil, or_false] at hp
    rcases hp with rfl | rfl | rfl | rfl | rfl | rfl | rfl | rfl | rfl | rfl | rfl | rfl
    · exact ⟨_, _, Try.underlying88, rfl, rfl, rfl, Try.prog.types[87]!, by kernel_rfl, by decide +kernel⟩
    · exact ⟨_, _, Try.underlying89, rfl, rfl, rfl, Try.prog.types[87]!, by kernel_rfl, by decide +kernel⟩
    · exact ⟨_, _, Try.underlying107, rfl, rfl, rfl, Try.prog.types[89]!, by kernel_rfl, by decide +kernel⟩
    · exact ⟨_, _, Try.underlying107, rfl, rfl, rfl, Try.prog.types[89]!, by kernel_rfl, by decide +kernel⟩
    · exact ⟨_, _, Try.underlying107, rfl, rfl, rfl, Try.prog.types[89]!, by kernel_rfl, by decide +kernel⟩
    · exact ⟨_, _, Try.underlying107, rfl, rfl, rfl, Try.prog.types[89]!, by kernel_rfl, by decide +kernel⟩
    · exact ⟨_, _, Try.underlying107, rfl, rfl, rfl, Try.prog.types[89]!, by kernel_rfl, by decide +kernel⟩
    · exact ⟨_, _, Try.underlying108, rfl, rfl, rfl, Try.prog.types[89]!, by kernel_rfl, by decide +kernel⟩
    · exact ⟨_, _, Try.underlying108, rfl, rfl, rfl, Try.prog.types[89]!, by kernel_rfl, by decide +kernel⟩
    · exact ⟨_, _, Try.underlying108, rfl, rfl, rfl, Try.prog.types[89]!, by kernel_rfl, by decide +kernel⟩
    · exact ⟨_, _, Try.underlying108, rfl, rfl, rfl, Try.prog.types[89]!, by kernel_rfl, by decide +kernel⟩
    · exact ⟨_, _, Try.underlying108, rfl, rfl, rfl, Try.prog.types[89]!, by kernel_rfl, by decide +kernel⟩
  sz := by
    intro p hp
    simp only [U, List.mem_cons, List.not_mem_nil, or_false] at hp
    rcases hp with rfl | rfl | rfl | rfl | rfl | rfl | rfl | rfl | rfl
    · exact ⟨Try.prog.types[3]!, by kernel_rfl, by kernel_rfl⟩
    · exact ⟨Try.prog.types[5]!, by kernel_rfl, by kernel_rfl⟩
    · exact ⟨Try.prog.types[23]!, by kernel_rfl, by kernel_rfl⟩
    · exact ⟨Try.prog.types[86]!, by kernel_rfl, by kernel_rfl⟩
    · exact ⟨Try.prog.types[87]!, by kernel_rfl, by kernel_rfl⟩
    · exact ⟨Try.prog.types[88]!, by kernel_rfl, by kernel_rfl⟩
    · exact ⟨Try.prog.types[89]!, by kernel_rfl, by kernel_rfl⟩
    · exact ⟨Try.prog.types[107]!, by kernel_rfl, by kernel_rfl⟩
    · exact ⟨Try.prog.types[108]!, by kernel_rfl, by kernel_rfl⟩
  ti := by
    intro p hp
    simp only [U, List.mem_cons, List.not_mem_nil, or_false] at hp
    rcases hp with rfl | rfl | rfl | rfl | rfl | rfl | rfl | rfl | rfl
    · exact ⟨Try.prog.types[3]!, by kernel_rfl, by kernel_rfl, by kernel_rfl, by kernel_rfl⟩
    · exact ⟨Try.prog.types[5]!, by kernel_rfl, by kernel_rfl, by kernel_rfl, by kernel_rfl⟩
    · exact ⟨Try.prog.types[23]!, by kernel_rfl, by kernel_rfl, by kernel_rfl, by kernel_rfl⟩
    · exact ⟨Try.prog.types[86]!, by kernel_rfl, by kernel_rfl, by kernel_rfl, by kernel_rfl⟩
    · exact ⟨Try.prog.types[87]!, by kernel_rfl, by kernel_rfl, by kernel_rfl, by kernel_rfl⟩
    · exact ⟨Try.prog.types[88]!, by kernel_rfl, by kernel_rfl, by kernel_rfl, by kernel_rfl⟩
    · exact ⟨Try.prog.types[89]!, by kernel_rfl, by kernel_rfl, by kernel_rfl, by kernel_rfl⟩
    · exact ⟨Try.prog.types[107]!, by kernel_rfl, by kernel_rfl, by kernel_rfl, by kernel_rfl⟩
    · exact ⟨Try.prog.types[108]!, by kernel_rfl, by kernel_rfl, by kernel_rfl, by kernel_rfl⟩
  bld := by
    intro p hp
    simp only [U, List.mem_cons, List.not_mem_nil, or_false] at hp
    rcases hp with rfl | rfl | rfl | rfl
    · exact ⟨_, Try.underlying88, by kernel_rfl⟩
    · exact ⟨_, Try.underlying89, by kernel_rfl⟩
    · exact ⟨_, Try.underlying107, by kernel_rfl⟩
    · exact ⟨_, Try.underlying108, by kernel_rfl⟩
  mixed := by kernel_rfl

theorem k_Clone_spec (A8 : Option Addr) (c8 : Nat) (xs : List Int) (l_xs : Nat) (hIxs : In .u8 xs) (hCxs : xs.length ≤ c8) (hBxs : xs.length ≤ 140737488351232) (hl_xs : xs.length = l_xs) :
    CallsS Try.prog 64 [.slice A8 l_xs c8] [vw A8 (nums .u8 xs)] (fun r D => ∃ (A9 : Option Addr) (c9 : Nat) (zs : List Int), r = .slice A9 zs.length c9 ∧ D = [row 5 1 (.slice A9 zs.length c9) zs.length (nums .u8 zs)] ∧ (zs = xs) ∧ (zs.length = xs.length) ∧ (In .u8 zs) ∧ (zs.length ≤ c9) ∧ (0 < zs.length → Option.isSome A9 = true)) := by
  subst hl_xs
  refine CallsS.enter hU Try.f64 _ [.tmp 2] 8 Try.func64 rfl (by decide) rfl rfl (by kernel_rfl) fun w0 W => ?_
  refine RunC.know (p := 0 < xs.length → Option.isSome A8 = true) (fun _ _ w hs => vw_some hs 0 rfl (by (simp [nums_length]; done))) (fun hA1 => ?_)
  refine RunC.sr ?_
  refine RunR.sl hU [] 1 1 [0, 2] [(0, .slice A8 xs.length c8), (2, .slice none 0 0)] 1 ?_
  refine RunR.nn ?_
  refine RunC.seq ?_
  refine RunC.sr ?_
  refine RunR.sl hU [] 2 2 [0, 2, 4] [(0, .slice A8 xs.length c8), (2, .slice none 0 0), (4, .bool (Option.isNone A8))] 2 ?_
  refine RunR.nn ?_
  refine RunC.cond (b := Option.isNone A8) (by kernel_rfl) (fun h2 => ?_) (fun h2 => ?_)
  · skip
    refine RunC.sr ?_
    refine RunR.sl hU [] 1 1 [0, 2] [(0, .slice A8 xs.length c8), (2, .slice none 0 0)] 1 ?_
    refine RunR.nn ?_
    refine RunC.ret ?_
    refine kseq_r ?_
    refine kret_rt ([row 5 1 (.slice none 0 0) 0 (nums .u8 ([] : List Int)), vw A8 (nums .u8 xs)]) (fun w0 W w hs => (hs).nil_row 5 1) [.slice none 0 0] [0] [row 5 1 (.slice none 0 0) 0 (nums .u8 ([] : List Int))] ⟨rfl, trivial⟩ (by kernel_rfl) rfl ⟨none, 0, ([] : List Int), rfl, rfl, (by exact (nil_of_none (by assumption) (by assumption)).symm), (by rw [nil_of_none (xs := xs) (by assumption) (by assumption)]), (by exact In.nil _), (by exact Nat.le_refl _), (by intro h; simp at h)⟩
  · skip
    refine RunC.ksr ?_
    refine RunR.st (some 5) (.buildSlice 23 0 #[]) (Step.lit_nums hU 5 1 .u8 (.int .u8 0) ([] : List Int) rfl rfl (by kernel_rfl) rfl rfl (by kernel_rfl) (fun b3 => ?_))
    have hl4 : (([] : List Int)).length = 0 := rfl
    refine RunR.sl hU [] 1 2 [2, 5, 6] [(2, .slice none 0 0), (5, .slice (some ⟨b3, 0, none⟩) 0 0), (6, .slice A8 xs.length c8)] 1 ?_
    have hl9 : (([] : List Int)).length = 0 := rfl
    refine RunR.st (some 7) (.call { callee := .builtin .append, args := #[.tmp 5, .tmp 6], argTypes := #[23, 23] }) (Step.append_nums hU 5 1 (.int .u8 0) .u8 0 1 (some ⟨b3, 0, none⟩) 0 0 ([] : List Int) A8 xs.length c8 (vw A8 (nums .u8 xs)) xs rfl rfl rfl (by kernel_rfl) (by kernel_rfl) (by kernel_rfl) (by kernel_rfl) (tells_vw _ _) (by rfl) (by rfl) (by omega) (by omega) (by kernel_rfl) (fun Aq5 cq6 hc7 hA8 => ?_))
    simp only [List.nil_append] at hc7 hA8
    refine RunR.sl hU [] 1 4 [2] [(2, .slice Aq5 xs.length cq6)] 1 ?_
    refine RunR.nn ?_
    refine RunC.ret ?_
    refine kret_r [.slice Aq5 xs.length cq6] [0] [row 5 1 (.slice Aq5 xs.length cq6) xs.length (nums .u8 xs)] ⟨rfl, trivial⟩ (by kernel_rfl) rfl ⟨Aq5, cq6, xs, rfl, rfl, (by rfl), (by rfl), (by exact hIxs), (by assumption), (by assumption)⟩

theorem k_swap_spec (b : Nat) (us : List Int) (xs2 : List Int) (zs2 : List Int) (xs3 : List Int) (zs3 : List Int) (u : Int) (x2 : Int) (z2 : Int) (x3 : Int) (z3 : Int) (x : Int) (hEu : El us u) (hEx2 : El xs2 x2) (hEz2 : El zs2 z2) (hEx3 : El xs3 x3) (hEz3 : El zs3 z3) (hlu : us.length = 5) (hlx2 : xs2.length = 5) (hlz2 : zs2.length = 5) (hlx3 : xs3.length = 5) (hlz3 : zs3.length = 5) (hx : fits .u64 x) :
    CallsS Try.prog 73 [pt b, .int .u64 x] [blk b 108 (nums .u64 us ++ (nums .u64 xs2 ++ (nums .u64 zs2 ++ (nums .u64 xs3 ++ nums .u64 zs3))))] (fun r D => ∃ (ya : List Int) (yb : List Int) (yc : List Int) (yd : List Int), r = .tuple #[] ∧ D = [blk b 108 (nums .u64 us ++ (nums .u64 ya ++ (nums .u64 yb ++ (nums .u64 yc ++ nums .u64 yd))))] ∧ (El ya (swv x x2 x3)) ∧ (El yb (swv x z2 z3)) ∧ (El yc (swv x x3 x2)) ∧ (El yd (swv x z3 z2)) ∧ (ya.length = 5) ∧ (yb.length = 5) ∧ (yc.length = 5) ∧ (yd.length = 5)) := by
  refine CallsS.enter hU Try.f73 _ [] 42 Try.func73 rfl (by decide) rfl rfl (by kernel_rfl) fun w0 W => ?_
  refine RunC.seq ?_
  refine RunC.regionU hU 21 [blk b 108 (nums .u64 us ++ (nums .u64 xs2 ++ (nums .u64 zs2 ++ (nums .u64 xs3 ++ nums .u64 zs3))))] [0] [11, 17, 18, 19, 20] (bm 21 0) (by kernel_rfl) (by kernel_rfl) (by kernel_rfl) ?_
  refine RunU.sl hU 0 (bm 21 1) 5 (pt b) ?_
  refine RunU.sl hU 1 (bm 21 3) 6 (pt b) ?_
  refine RunU.sl hU 2 (bm 21 7) 7 (.int .u64 x) ?_
  refine RunU.sl hU 3 (bm 21 15) 8 (pt b) ?_
  refine RunU.sl hU 4 (bm 21 31) 9 (pt b) ?_
  refine RunU.sl hU 5 (bm 21 63) 10 (.pointer (some ⟨b, 5, none⟩)) ?_
  refine RunU.rd 6 (bm 21 127) 11 (.load 89 (.tmp 10)) (ag .u64 xs2) [0] (Reads.load_blk hU 0 b (5) 108 (nums .u64 us ++ (nums .u64 xs2 ++ (nums .u64 zs2 ++ (nums .u64 xs3 ++ nums .u64 zs3)))) (ag .u64 xs2) (by kernel_rfl) (by kernel_rfl) (loadv_seg (n := 5) (by kernel_rfl) (by kernel_rfl) (show Seg _ 5 _ from Seg.skip (n := 5) (o := 0) (by rw [nums_length]; assumption) (Seg.here _ _)) (by rw [nums_length]; assumption))) ?_
  refine RunU.sl hU 7 (bm 21 255) 12 (pt b) ?_
  refine RunU.sl hU 8 (bm 21 511) 13 (pt b) ?_
  refine RunU.sl hU 9 (bm 21 1023) 14 (.pointer (some ⟨b, 15, none⟩)) ?_
  refine RunU.rd 10 (bm 21 2047) 15 (.load 89 (.tmp 14)) (ag .u64 xs3) [0] (Reads.load_blk hU 0 b (15) 108 (nums .u64 us ++ (nums .u64 xs2 ++ (nums .u64 zs2 ++ (nums .u64 xs3 ++ nums .u64 zs3)))) (ag .u64 xs3) (by kernel_rfl) (by kernel_rfl) (loadv_seg (n := 5) (by kernel_rfl) (by kernel_rfl) (show Seg _ 15 _ from Seg.skip (n := 5) (o := 10) (by rw [nums_length]; assumption) (Seg.skip (n := 5) (o := 5) (by rw [nums_length]; assumption) (Seg.skip (n := 5) (o := 0) (by rw [nums_length]; assumption) (Seg.here _ _)))) (by rw [nums_length]; assumption))) ?_
  refine RunU.on (some 16) (.call { callee := .value (.func 88), args := #[.tmp 7, .tmp 11, .tmp 15], argTypes := #[86, 89, 89] }) 11 (bm 21 4095) [] (Step.cn 88 [.int .u64 x, ag .u64 xs2, ag .u64 xs3] [] [blk b 108 (nums .u64 us ++ (nums .u64 xs2 ++ (nums .u64 zs2 ++ (nums .u64 xs3 ++ nums .u64 zs3))))] (f_Swap_spec x xs2 x2 xs3 x3 (by assumption) (by assumption) (by assumption) (by assumption) (by assumption)) [] ?_)
  rintro _ _ ⟨zs1, us2, rfl, rfl, hp3, hp4, hp5, hp6⟩
  refine orR ?_
  refine RunU.sl hU 12 (bm 21 8191) 4 (.tuple #[ag .u64 zs1, ag .u64 us2]) ?_
  refine RunU.sl hU 13 (bm 21 16383) 17 (ag .u64 zs1) ?_
  refine RunU.sl hU 14 (bm 21 32767) 18 (ag .u64 us2) ?_
  refine RunU.sl hU 15 (bm 21 65535) 19 (pt b) ?_
  refine RunU.sl hU 16 (bm 21 131071) 20 (.pointer (some ⟨b, 5, none⟩)) ?_
  refine RunU.on none (.store 89 (.tmp 20) (.tmp 17)) 17 (bm 21 262143) [] (Step.store_seg hU 0 b (5) 108 (nums .u64 us ++ (nums .u64 xs2 ++ (nums .u64 zs2 ++ (nums .u64 xs3 ++ nums .u64 zs3)))) (nums .u64 us ++ (nums .u64 zs1 ++ (nums .u64 zs2 ++ (nums .u64 xs3 ++ nums .u64 zs3)))) (nums .u64 zs1) (ag .u64 zs1) (by kernel_rfl) (by kernel_rfl) (by kernel_rfl) 5 (by kernel_rfl) (by kernel_rfl) (by (simp only [List.length_append, nums_length, List.length_cons, List.length_nil, List.length_replicate]; omega)) (all_one_nums _ _) (show Put _ 5 _ _ from Put.skip (n := 5) (o := 0) (by rw [nums_length]; assumption) (Put.here _ (by simp only [nums_length]; omega))) ?_)
  refine orR ?_
  refine RunU.sl hU 18 (bm 21 524287) 21 (pt b) ?_
  refine RunU.sl hU 19 (bm 21 1048575) 22 (.pointer (some ⟨b, 15, none⟩)) ?_
  refine RunU.on none (.store 89 (.tmp 22) (.tmp 18)) 20 (bm 21 2097151) [] (Step.store_seg hU 0 b (15) 108 (nums .u64 us ++ (nums .u64 zs1 ++ (nums .u64 zs2 ++ (nums .u64 xs3 ++ nums .u64 zs3)))) (nums .u64 us ++ (nums .u64 zs1 ++ (nums .u64 zs2 ++ (nums .u64 us2 ++ nums .u64 zs3)))) (nums .u64 us2) (ag .u64 us2) (by kernel_rfl) (by kernel_rfl) (by kernel_rfl) 5 (by kernel_rfl) (by kernel_rfl) (by (simp only [List.length_append, nums_length, List.length_cons, List.length_nil, List.length_replicate]; omega)) (all_one_nums _ _) (show Put _ 15 _ _ from Put.skip (n := 5) (o := 10) (by rw [nums_length]; assumption) (Put.skip (n := 5) (o := 5) (by rw [nums_length]; assumption) (Put.skip (n := 5) (o := 0) (by rw [nums_length]; assumption) (Put.here _ (by simp only [nums_length]; omega))))) ?_)
  refine orR ?_
  refine RunU.ev [0, 1] [(0, pt b), (1, .int .u64 x)] ?_
  refine RunU.dn ?_
  refine kseq_n ?_
  refine RunC.regionU hU 21 [blk b 108 (nums .u64 us ++ (nums .u64 zs1 ++ (nums .u64 zs2 ++ (nums .u64 us2 ++ nums .u64 zs3))))] [0] [11, 17, 18, 19, 20] (bm 21 0) (by kernel_rfl) (by kernel_rfl) (by kernel_rfl) ?_
  refine RunU.sl hU 0 (bm 21 1) 24 (pt b) ?_
  refine RunU.sl hU 1 (bm 21 3) 25 (pt b) ?_
  refine RunU.sl hU 2 (bm 21 7) 26 (.int .u64 x) ?_
  refine RunU.sl hU 3 (bm 21 15) 27 (pt b) ?_
  refine RunU.sl hU 4 (bm 21 31) 28 (pt b) ?_
  refine RunU.sl hU 5 (bm 21 63) 29 (.pointer (some ⟨b, 10, none⟩)) ?_
  refine RunU.rd 6 (bm 21 127) 30 (.load 89 (.tmp 29)) (ag .u64 zs2) [0] (Reads.load_blk hU 0 b (10) 108 (nums .u64 us ++ (nums .u64 zs1 ++ (nums .u64 zs2 ++ (nums .u64 us2 ++ nums .u64 zs3)))) (ag .u64 zs2) (by kernel_rfl) (by kernel_rfl) (loadv_seg (n := 5) (by kernel_rfl) (by kernel_rfl) (show Seg _ 10 _ from Seg.skip (n := 5) (o := 5) (by rw [nums_length]; assumption) (Seg.skip (n := 5) (o := 0) (by rw [nums_length]; assumption) (Seg.here _ _))) (by rw [nums_length]; assumption))) ?_
  refine RunU.sl hU 7 (bm 21 255) 31 (pt b) ?_
  refine RunU.sl hU 8 (bm 21 511) 32 (pt b) ?_
  refine RunU.sl hU 9 (bm 21 1023) 33 (.pointer (some ⟨b, 20, none⟩)) ?_
  refine RunU.rd 10 (bm 21 2047) 34 (.load 89 (.tmp 33)) (ag .u64 zs3) [0] (Reads.load_blk hU 0 b (20) 108 (nums .u64 us ++ (nums .u64 zs1 ++ (nums .u64 zs2 ++ (nums .u64 us2 ++ nums .u64 zs3)))) (ag .u64 zs3) (by kernel_rfl) (by kernel_rfl) (loadv_seg (n := 5) (by kernel_rfl) (by kernel_rfl) (show Seg _ 20 _ from Seg.skip (n := 5) (o := 15) (by rw [nums_length]; assumption) (Seg.skip (n := 5) (o := 10) (by rw [nums_length]; assumption) (Seg.skip (n := 5) (o := 5) (by rw [nums_length]; assumption) (Seg.skip (n := 5) (o := 0) (by rw [nums_length]; assumption) (Seg.all _))))) (by rw [nums_length]; assumption))) ?_
  refine RunU.on (some 35) (.call { callee := .value (.func 88), args := #[.tmp 26, .tmp 30, .tmp 34], argTypes := #[86, 89, 89] }) 11 (bm 21 4095) [] (Step.cn 88 [.int .u64 x, ag .u64 zs2, ag .u64 zs3] [] [blk b 108 (nums .u64 us ++ (nums .u64 zs1 ++ (nums .u64 zs2 ++ (nums .u64 us2 ++ nums .u64 zs3))))] (f_Swap_spec x zs2 z2 zs3 z3 (by assumption) (by assumption) (by assumption) (by assumption) (by assumption)) [] ?_)
  rintro _ _ ⟨zs7, us8, rfl, rfl, hp9, hp10, hp11, hp12⟩
  refine orR ?_
  refine RunU.sl hU 12 (bm 21 8191) 23 (.tuple #[ag .u64 zs7, ag .u64 us8]) ?_
  refine RunU.sl hU 13 (bm 21 16383) 36 (ag .u64 zs7) ?_
  refine RunU.sl hU 14 (bm 21 32767) 37 (ag .u64 us8) ?_
  refine RunU.sl hU 15 (bm 21 65535) 38 (pt b) ?_
  refine RunU.sl hU 16 (bm 21 131071) 39 (.pointer (some ⟨b, 10, none⟩)) ?_
  refine RunU.on none (.store 89 (.tmp 39) (.tmp 36)) 17 (bm 21 262143) [] (Step.store_seg hU 0 b (10) 108 (nums .u64 us ++ (nums .u64 zs1 ++ (nums .u64 zs2 ++ (nums .u64 us2 ++ nums .u64 zs3)))) (nums .u64 us ++ (nums .u64 zs1 ++ (nums .u64 zs7 ++ (nums .u64 us2 ++ nums .u64 zs3)))) (nums .u64 zs7) (ag .u64 zs7) (by kernel_rfl) (by kernel_rfl) (by kernel_rfl) 5 (by kernel_rfl) (by kernel_rfl) (by (simp only [List.length_append, nums_length, List.length_cons, List.length_nil, List.length_replicate]; omega)) (all_one_nums _ _) (show Put _ 10 _ _ from Put.skip (n := 5) (o := 5) (by rw [nums_length]; assumption) (Put.skip (n := 5) (o := 0) (by rw [nums_length]; assumption) (Put.here _ (by simp only [nums_length]; omega)))) ?_)
  refine orR ?_
  refine RunU.sl hU 18 (bm 21 524287) 40 (pt b) ?_
  refine RunU.sl hU 19 (bm 21 1048575) 41 (.pointer (some ⟨b, 20, none⟩)) ?_
  refine RunU.on none (.store 89 (.tmp 41) (.tmp 37)) 20 (bm 21 2097151) [] (Step.store_seg hU 0 b (20) 108 (nums .u64 us ++ (nums .u64 zs1 ++ (nums .u64 zs7 ++ (nums .u64 us2 ++ nums .u64 zs3)))) (nums .u64 us ++ (nums .u64 zs1 ++ (nums .u64 zs7 ++ (nums .u64 us2 ++ nums .u64 us8)))) (nums .u64 us8) (ag .u64 us8) (by kernel_rfl) (by kernel_rfl) (by kernel_rfl) 5 (by kernel_rfl) (by kernel_rfl) (by (simp only [List.length_append, nums_length, List.length_cons, List.length_nil, List.length_replicate]; omega)) (all_one_nums _ _) (show Put _ 20 _ _ from Put.skip (n := 5) (o := 15) (by rw [nums_length]; assumption) (Put.skip (n := 5) (o := 10) (by rw [nums_length]; assumption) (Put.skip (n := 5) (o := 5) (by rw [nums_length]; assumption) (Put.skip (n := 5) (o := 0) (by rw [nums_length]; assumption) (Put.all (by simp only [nums_length]; omega)))))) ?_)
  refine orR ?_
  refine RunU.ev [] [] ?_
  refine RunU.dn ?_
  refine kret_n [] [0] [blk b 108 (nums .u64 us ++ (nums .u64 zs1 ++ (nums .u64 zs7 ++ (nums .u64 us2 ++ nums .u64 us8))))] trivial (by kernel_rfl) rfl ⟨zs1, zs7, us2, us8, rfl, rfl, (by assumption), (by assumption), (by assumption), (by assumption), (by assumption), (by assumption), (by assumption), (by assumption)⟩

theorem k_Clamp_spec (A8 : Option Addr) (c8 : Nat) (ks : List Int) (l_ks : Nat) (hIks : In .u8 ks) (hCks : ks.length ≤ c8) (hBks : ks.length ≤ 140737488351232) (hl_ks : ks.length = l_ks) :
    CallsS Try.prog 37 [.slice A8 l_ks c8] [vw A8 (nums .u8 ks)] (fun r D => ∃ (A9 : Option Addr) (c9 : Nat) (zs : List Int) (e : Int) (n9 : Nat), r = .tuple #[.slice A9 n9 c9, .int .i64 e] ∧ D = [row 5 1 (.slice A9 n9 c9) n9 (nums .u8 zs)] ∧ ((ks.length = 32 ∧ e = 0 ∧ zs = clampL ks) ∨ (¬ ks.length = 32 ∧ e = 1 ∧ zs = [])) ∧ (n9 = ks.length ∧ e = 0 ∨ n9 = 0 ∧ e = 1) ∧ (zs.length = n9) ∧ (In .u8 zs) ∧ (n9 ≤ c9) ∧ (0 < n9 → Option.isSome A9 = true)) := by
  subst hl_ks
  refine CallsS.enter hU Try.f37 _ [.tmp 2, .tmp 3] 23 Try.func37 rfl (by decide) rfl rfl (by kernel_rfl) fun w0 W => ?_
  refine RunC.know (p := 0 < ks.length → Option.isSome A8 = true) (fun _ _ w hs => vw_some hs 0 rfl (by (simp [nums_length]; done))) (fun hA1 => ?_)
  refine RunC.sr ?_
  refine RunR.sl hU [] 2 2 [0, 2, 3] [(0, .slice A8 ks.length c8), (2, .slice none 0 0), (3, .int .i64 0)] 2 ?_
  refine RunR.nn ?_
  refine RunC.seq ?_
  refine RunC.sr ?_
  refine RunR.sl hU [] 3 3 [0, 2, 3, 7] [(0, .slice A8 ks.length c8), (2, .slice none 0 0), (3, .int .i64 0), (7, .bool (!decide (((ks.length : Nat) : Int) = 32)))] 3 ?_
  refine RunR.nn ?_
  refine RunC.condn (((ks.length : Nat) : Int) = 32) (by kernel_rfl) (fun h2 => ?_) (fun h2 => ?_)
  · skip
    refine RunC.sr ?_
    refine RunR.sl hU [] 2 2 [0, 2, 3] [(0, .slice A8 ks.length c8), (2, .slice none 0 0), (3, .int .i64 1)] 2 ?_
    refine RunR.nn ?_
    refine RunC.ret ?_
    refine kseq_r ?_
    refine kret_rt ([row 5 1 (.slice none 0 0) 0 (nums .u8 ([] : List Int)), vw A8 (nums .u8 ks)]) (fun w0 W w hs => (hs).nil_row 5 1) [.slice none 0 0, .int .i64 1] [0] [row 5 1 (.slice none 0 0) 0 (nums .u8 ([] : List Int))] ⟨rfl, rfl, trivial⟩ (by kernel_rfl) rfl ⟨none, 0, ([] : List Int), 1, 0, rfl, rfl, (by exact .inr ⟨by omega, rfl, rfl⟩), (by exact .inr ⟨rfl, rfl⟩), (by rfl), (by exact In.nil _), (by exact Nat.le_refl _), (by intro h; omega)⟩
  · skip
    refine RunC.ksr ?_
    refine RunR.sl hU [] 1 1 [2, 3, 8] [(2, .slice none 0 0), (3, .int .i64 0), (8, .slice A8 ks.length c8)] 1 ?_
    refine RunR.st (some 9) (.call { callee := .value (.func 64), args := #[.tmp 8], argTypes := #[23] }) (Step.cl 64 [.slice A8 ks.length c8] [] [vw A8 (nums .u8 ks)] [vw A8 (nums .u8 ks)] (k_Clone_spec A8 c8 ks ks.length hIks (by assumption) (by assumption) (by rfl)) [] ((Lend.nil _).tells 0 (vw A8 (nums .u8 ks)) A8 (nums .u8 ks) (by kernel_rfl) (tells_vw _ _)) ?_)
    rintro _ _ ⟨A93, c94, zs5, rfl, rfl, hp6, hp7, hp8, hp9, hp10⟩
    refine RunR.sl hU [] 1 3 [2, 3, 4] [(2, .slice none 0 0), (3, .int .i64 0), (4, .slice A93 zs5.length c94)] 1 ?_
    refine RunR.nx ?_
    refine RunR.sil hU [] 2 2 [2, 3, 4, 10, 11] [(2, .slice none 0 0), (3, .int .i64 0), (4, .slice A93 zs5.length c94), (10, .slice A93 zs5.length c94), (11, .pointer (elemAt A93 0 1))] ((True) ∧ ((0 ≤ (0 : Int) ∧ (0 : Int) < ((zs5.length : Nat) : Int)) ∧ Option.isSome A93 = true) ∧ True) rfl (by kernel_rfl) ⟨trivial, ⟨by omega, hp10 (by omega)⟩, trivial⟩ ?_
    refine RunR.st (some 12) (.load 5 (.tmp 11)) (Step.load_num hU 0 (row 5 1 (.slice A93 zs5.length c94) zs5.length (nums .u8 zs5)) A93 0 .u8 zs5 rfl (by kernel_rfl) (by kernel_rfl) (tells_row _ _ _ _ _ _) (by kernel_rfl) (by omega) ?_)
    have hb11 : 0 ≤ zs5.getD ((0 : Int).toNat) 0 ∧ zs5.getD ((0 : Int).toNat) 0 < 256 := hp8.at_ _
    have hm12 := and_le .u8 rfl (zs5.getD (0 : Int).toNat 0) 248 (by decide) (by decide)
    refine RunR.sil hU [] 2 5 [2, 3, 4, 13, 14] [(2, .slice none 0 0), (3, .int .i64 0), (4, .slice A93 zs5.length c94), (13, .int .u8 (bits2 .and .u8 (zs5.getD (0 : Int).toNat 0) 248)), (14, .pointer (elemAt A93 0 1))] ((True) ∧ ((0 ≤ (0 : Int) ∧ (0 : Int) < ((zs5.length : Nat) : Int)) ∧ Option.isSome A93 = true) ∧ True) rfl (by kernel_rfl) ⟨trivial, ⟨by omega, hp10 (by omega)⟩, trivial⟩ ?_
    refine RunR.st none (.store 5 (.tmp 14) (.tmp 13)) (Step.store_num hU 0 5 zs5.length c94 A93 .u8 zs5 0 (bits2 .and .u8 (zs5.getD (0 : Int).toNat 0) 248) (by kernel_rfl) (by kernel_rfl) (by kernel_rfl) rfl (by omega) ?_)
    have hl13 : (zs5.set (0 : Int).toNat (bits2 .and .u8 (zs5.getD (0 : Int).toNat 0) 248)).length = zs5.length := List.length_set
    refine RunR.nx ?_
    refine RunR.sil hU [] 3 3 [2, 3, 4, 15, 17] [(2, .slice none 0 0), (3, .int .i64 0), (4, .slice A93 zs5.length c94), (15, .slice A93 zs5.length c94), (17, .pointer (elemAt A93 31 1))] ((True) ∧ (True) ∧ ((0 ≤ (31 : Int) ∧ (31 : Int) < ((zs5.length : Nat) : Int)) ∧ Option.isSome A93 = true) ∧ True) rfl (by kernel_rfl) ⟨trivial, trivial, ⟨by omega, hp10 (by omega)⟩, trivial⟩ ?_
    refine RunR.st (some 18) (.load 5 (.tmp 17)) (Step.load_num hU 0 (row 5 1 (.slice A93 zs5.length c94) zs5.length (nums .u8 (zs5.set (0 : Int).toNat (bits2 .and .u8 (zs5.getD (0 : Int).toNat 0) 248)))) A93 31 .u8 (zs5.set (0 : Int).toNat (bits2 .and .u8 (zs5.getD (0 : Int).toNat 0) 248)) rfl (by kernel_rfl) (by kernel_rfl) (tells_row _ _ _ _ _ _) (by kernel_rfl) (by omega) ?_)
    have hm14 := and_le .u8 rfl ((zs5.set (0 : Int).toNat (bits2 .and .u8 (zs5.getD (0 : Int).toNat 0) 248)).getD (31 : Int).toNat 0) 127 (by decide) (by decide)
    refine RunR.sil hU [] 3 7 [2, 3, 4, 20, 21] [(2, .slice none 0 0), (3, .int .i64 0), (4, .slice A93 zs5.length c94), (20, .int .u8 (bits2 .or .u8 (bits2 .and .u8 ((zs5.set (0 : Int).toNat (bits2 .and .u8 (zs5.getD (0 : Int).toNat 0) 248)).getD (31 : Int).toNat 0) 127) 64)), (21, .pointer (elemAt A93 31 1))] ((True) ∧ (True) ∧ ((0 ≤ (31 : Int) ∧ (31 : Int) < ((zs5.length : Nat) : Int)) ∧ Option.isSome A93 = true) ∧ True) rfl (by kernel_rfl) ⟨trivial, trivial, ⟨by omega, hp10 (by omega)⟩, trivial⟩ ?_
    refine RunR.st none (.store 5 (.tmp 21) (.tmp 20)) (Step.store_num hU 0 5 zs5.length c94 A93 .u8 (zs5.set (0 : Int).toNat (bits2 .and .u8 (zs5.getD (0 : Int).toNat 0) 248)) 31 (bits2 .or .u8 (bits2 .and .u8 ((zs5.set (0 : Int).toNat (bits2 .and .u8 (zs5.getD (0 : Int).toNat 0) 248)).getD (31 : Int).toNat 0) 127) 64) (by kernel_rfl) (by kernel_rfl) (by kernel_rfl) rfl (by omega) ?_)
    have hl15 : ((zs5.set (0 : Int).toNat (bits2 .and .u8 (zs5.getD (0 : Int).toNat 0) 248)).set (31 : Int).toNat (bits2 .or .u8 (bits2 .and .u8 ((zs5.set (0 : Int).toNat (bits2 .and .u8 (zs5.getD (0 : Int).toNat 0) 248)).getD (31 : Int).toNat 0) 127) 64)).length = (zs5.set (0 : Int).toNat (bits2 .and .u8 (zs5.getD (0 : Int).toNat 0) 248)).length := List.length_set
    refine RunR.nx ?_
    refine RunR.sl hU [] 3 3 [2, 3] [(2, .slice A93 zs5.length c94), (3, .int .i64 0)] 3 ?_
    refine RunR.nn ?_
    refine RunC.ret ?_
    refine kret_r [.slice A93 zs5.length c94, .int .i64 0] [0] [row 5 1 (.slice A93 zs5.length c94) zs5.length (nums .u8 ((zs5.set (0 : Int).toNat (bits2 .and .u8 (zs5.getD (0 : Int).toNat 0) 248)).set (31 : Int).toNat (bits2 .or .u8 (bits2 .and .u8 ((zs5.set (0 : Int).toNat (bits2 .and .u8 (zs5.getD (0 : Int).toNat 0) 248)).getD (31 : Int).toNat 0) 127) 64)))] ⟨rfl, rfl, trivial⟩ (by kernel_rfl) rfl ⟨A93, c94, ((zs5.set (0 : Int).toNat (bits2 .and .u8 (zs5.getD (0 : Int).toNat 0) 248)).set (31 : Int).toNat (bits2 .or .u8 (bits2 .and .u8 ((zs5.set (0 : Int).toNat (bits2 .and .u8 (zs5.getD (0 : Int).toNat 0) 248)).getD (31 : Int).toNat 0) 127) 64)), 0, zs5.length, rfl, rfl, (by exact .inl ⟨by omega, rfl, clamp_a (by assumption) (by omega) hp6⟩), (by left; exact ⟨by assumption, rfl⟩), (by simp only [List.length_set]), (by exact In.set (In.set (by assumption) _ (fits_bits2 _ _ _ _)) _ (fits_bits2 _ _ _ _)), (by assumption), (by assumption)⟩

theorem kr_Clamp_spec (A8 : Option Addr) (c8 : Nat) (ks : List Int) (l_ks : Nat) (hIks : In .u8 ks) (hCks : ks.length ≤ c8) (hBks : ks.length ≤ 140737488351232) (hl : ks.length = 32) (hl_ks : ks.length = l_ks) :
    CallsS Try.prog 38 [.slice A8 l_ks c8] [vw A8 (nums .u8 ks)] (fun r D => ∃ (A9 : Option Addr) (c9 : Nat) (zs : List Int) (n9 : Nat), r = .slice A9 n9 c9 ∧ D = [row 5 1 (.slice A9 n9 c9) n9 (nums .u8 zs)] ∧ (zs = clampL ks) ∧ (n9 = 32) ∧ (zs.length = n9) ∧ (In .u8 zs) ∧ (n9 ≤ c9) ∧ (0 < n9 → Option.isSome A9 = true)) := by
  subst hl_ks
  refine CallsS.enter hU Try.f38 _ [.tmp 2] 22 Try.func38 rfl (by decide) rfl rfl (by kernel_rfl) fun w0 W => ?_
  refine RunC.know (p := 0 < ks.length → Option.isSome A8 = true) (fun _ _ w hs => vw_some hs 0 rfl (by (simp [nums_length]; done))) (fun hA1 => ?_)
  refine RunC.sr ?_
  refine RunR.sl hU [] 1 1 [0, 2] [(0, .slice A8 ks.length c8), (2, .slice none 0 0)] 1 ?_
  refine RunR.nx ?_
  refine RunR.st (some 4) (.buildSlice 23 0 #[]) (Step.lit_nums hU 5 1 .u8 (.int .u8 0) ([] : List Int) rfl rfl (by kernel_rfl) rfl rfl (by kernel_rfl) (fun b2 => ?_))
  have hl3 : (([] : List Int)).length = 0 := rfl
  refine RunR.sl hU [] 1 2 [2, 4, 5] [(2, .slice none 0 0), (4, .slice (some ⟨b2, 0, none⟩) 0 0), (5, .slice A8 ks.length c8)] 1 ?_
  have hl8 : (([] : List Int)).length = 0 := rfl
  refine RunR.st (some 6) (.call { callee := .builtin .append, args := #[.tmp 4, .tmp 5], argTypes := #[23, 23] }) (Step.append_nums hU 5 1 (.int .u8 0) .u8 0 1 (some ⟨b2, 0, none⟩) 0 0 ([] : List Int) A8 ks.length c8 (vw A8 (nums .u8 ks)) ks rfl rfl rfl (by kernel_rfl) (by kernel_rfl) (by kernel_rfl) (by kernel_rfl) (tells_vw _ _) (by rfl) (by rfl) (by omega) (by omega) (by kernel_rfl) (fun Aq4 cq5 hc6 hA7 => ?_))
  simp only [List.nil_append] at hc6 hA7
  refine RunR.sl hU [] 1 4 [2, 3] [(2, .slice none 0 0), (3, .slice Aq4 ks.length cq5)] 1 ?_
  refine RunR.nx ?_
  refine RunR.sil hU [] 3 3 [2, 3, 7, 9] [(2, .slice none 0 0), (3, .slice Aq4 ks.length cq5), (7, .slice Aq4 ks.length cq5), (9, .pointer (elemAt Aq4 0 1))] ((True) ∧ (True) ∧ ((0 ≤ (0 : Int) ∧ (0 : Int) < ((ks.length : Nat) : Int)) ∧ Option.isSome Aq4 = true) ∧ True) rfl (by kernel_rfl) ⟨trivial, trivial, ⟨by omega, hA7 (by omega)⟩, trivial⟩ ?_
  refine RunR.st (some 10) (.load 5 (.tmp 9)) (Step.load_num hU 0 (row 5 1 (.slice Aq4 ks.length cq5) ks.length (nums .u8 ks)) Aq4 0 .u8 ks rfl (by kernel_rfl) (by kernel_rfl) (tells_row _ _ _ _ _ _) (by kernel_rfl) (by omega) ?_)
  have hb9 : 0 ≤ ks.getD ((0 : Int).toNat) 0 ∧ ks.getD ((0 : Int).toNat) 0 < 256 := hIks.at_ _
  refine RunR.sil hU [4, 5] 3 7 [2, 3, 12, 13] [(2, .slice none 0 0), (3, .slice Aq4 ks.length cq5), (12, .int .u8 (((ks.getD (0 : Int).toNat 0) / (8 : Int)) * 8)), (13, .pointer (elemAt Aq4 0 1))] ((0 ≤ (ks.getD (0 : Int).toNat 0) ∧ 0 < (8 : Int) ∧ 0 ≤ ((ks.getD (0 : Int).toNat 0) / (8 : Int)) ∧ ((ks.getD (0 : Int).toNat 0) / (8 : Int)) < 256) ∧ (0 ≤ (((ks.getD (0 : Int).toNat 0) / (8 : Int)) * 8) ∧ (((ks.getD (0 : Int).toNat 0) / (8 : Int)) * 8) < 256) ∧ ((0 ≤ (0 : Int) ∧ (0 : Int) < ((ks.length : Nat) : Int)) ∧ Option.isSome Aq4 = true) ∧ True) rfl (by kernel_rfl) ⟨(by omega), (by omega), ⟨by omega, hA7 (by omega)⟩, trivial⟩ ?_
  refine RunR.st none (.store 5 (.tmp 13) (.tmp 12)) (Step.store_num hU 0 5 ks.length cq5 Aq4 .u8 ks 0 (((ks.getD (0 : Int).toNat 0) / (8 : Int)) * 8) (by kernel_rfl) (by kernel_rfl) (by kernel_rfl) rfl (by omega) ?_)
  have hl10 : (ks.set (0 : Int).toNat (((ks.getD (0 : Int).toNat 0) / (8 : Int)) * 8)).length = ks.length := List.length_set
  refine RunR.nx ?_
  refine RunR.sil hU [] 3 3 [2, 3, 14, 16] [(2, .slice none 0 0), (3, .slice Aq4 ks.length cq5), (14, .slice Aq4 ks.length cq5), (16, .pointer (elemAt Aq4 31 1))] ((True) ∧ (True) ∧ ((0 ≤ (31 : Int) ∧ (31 : Int) < ((ks.length : Nat) : Int)) ∧ Option.isSome Aq4 = true) ∧ True) rfl (by kernel_rfl) ⟨trivial, trivial, ⟨by omega, hA7 (by omega)⟩, trivial⟩ ?_
  refine RunR.st (some 17) (.load 5 (.tmp 16)) (Step.load_num hU 0 (row 5 1 (.slice Aq4 ks.length cq5) ks.length (nums .u8 (ks.set (0 : Int).toNat (((ks.getD (0 : Int).toNat 0) / (8 : Int)) * 8)))) Aq4 31 .u8 (ks.set (0 : Int).toNat (((ks.getD (0 : Int).toNat 0) / (8 : Int)) * 8)) rfl (by kernel_rfl) (by kernel_rfl) (tells_row _ _ _ _ _ _) (by kernel_rfl) (by omega) ?_)
  have hr11 : In .u8 (ks.set (0 : Int).toNat (((ks.getD (0 : Int).toNat 0) / (8 : Int)) * 8)) := by exact In.set hIks _ (by refine ⟨?_, ?_⟩ <;> omega)
  have hb12 : 0 ≤ (ks.set (0 : Int).toNat (((ks.getD (0 : Int).toNat 0) / (8 : Int)) * 8)).getD ((31 : Int).toNat) 0 ∧ (ks.set (0 : Int).toNat (((ks.getD (0 : Int).toNat 0) / (8 : Int)) * 8)).getD ((31 : Int).toNat) 0 < 256 := hr11.at_ _
  refine RunR.sil hU [4, 5] 3 7 [2, 3, 19, 20] [(2, .slice none 0 0), (3, .slice Aq4 ks.length cq5), (19, .int .u8 ((((ks.set (0 : Int).toNat (((ks.getD (0 : Int).toNat 0) / (8 : Int)) * 8)).getD (31 : Int).toNat 0) % (64 : Int)) + 64)), (20, .pointer (elemAt Aq4 31 1))] ((0 ≤ ((ks.set (0 : Int).toNat (((ks.getD (0 : Int).toNat 0) / (8 : Int)) * 8)).getD (31 : Int).toNat 0) ∧ 0 < (64 : Int)) ∧ (0 ≤ ((((ks.set (0 : Int).toNat (((ks.getD (0 : Int).toNat 0) / (8 : Int)) * 8)).getD (31 : Int).toNat 0) % (64 : Int)) + 64) ∧ ((((ks.set (0 : Int).toNat (((ks.getD (0 : Int).toNat 0) / (8 : Int)) * 8)).getD (31 : Int).toNat 0) % (64 : Int)) + 64) < 256) ∧ ((0 ≤ (31 : Int) ∧ (31 : Int) < ((ks.length : Nat) : Int)) ∧ Option.isSome Aq4 = true) ∧ True) rfl (by kernel_rfl) ⟨(by omega), (by omega), ⟨by omega, hA7 (by omega)⟩, trivial⟩ ?_
  refine RunR.st none (.store 5 (.tmp 20) (.tmp 19)) (Step.store_num hU 0 5 ks.length cq5 Aq4 .u8 (ks.set (0 : Int).toNat (((ks.getD (0 : Int).toNat 0) / (8 : Int)) * 8)) 31 ((((ks.set (0 : Int).toNat (((ks.getD (0 : Int).toNat 0) / (8 : Int)) * 8)).getD (31 : Int).toNat 0) % (64 : Int)) + 64) (by kernel_rfl) (by kernel_rfl) (by kernel_rfl) rfl (by omega) ?_)
  have hl13 : ((ks.set (0 : Int).toNat (((ks.getD (0 : Int).toNat 0) / (8 : Int)) * 8)).set (31 : Int).toNat ((((ks.set (0 : Int).toNat (((ks.getD (0 : Int).toNat 0) / (8 : Int)) * 8)).getD (31 : Int).toNat 0) % (64 : Int)) + 64)).length = (ks.set (0 : Int).toNat (((ks.getD (0 : Int).toNat 0) / (8 : Int)) * 8)).length := List.length_set
  refine RunR.nx ?_
  refine RunR.sl hU [] 2 2 [2] [(2, .slice Aq4 ks.length cq5)] 2 ?_
  refine RunR.nn ?_
  refine RunC.ret ?_
  refine kret_r [.slice Aq4 ks.length cq5] [0] [row 5 1 (.slice Aq4 ks.length cq5) ks.length (nums .u8 ((ks.set (0 : Int).toNat (((ks.getD (0 : Int).toNat 0) / (8 : Int)) * 8)).set (31 : Int).toNat ((((ks.set (0 : Int).toNat (((ks.getD (0 : Int).toNat 0) / (8 : Int)) * 8)).getD (31 : Int).toNat 0) % (64 : Int)) + 64)))] ⟨rfl, trivial⟩ (by kernel_rfl) rfl ⟨Aq4, cq5, ((ks.set (0 : Int).toNat (((ks.getD (0 : Int).toNat 0) / (8 : Int)) * 8)).set (31 : Int).toNat ((((ks.set (0 : Int).toNat (((ks.getD (0 : Int).toNat 0) / (8 : Int)) * 8)).getD (31 : Int).toNat 0) % (64 : Int)) + 64)), ks.length, rfl, rfl, (by exact clamp_b (by rfl)), (by assumption), (by simp only [List.length_set]), (by rw [clamp_b (by rfl)]; exact clamp_in (by assumption)), (by assumption), (by assumption)⟩
end Go.Proofs.Ytaaplakahkgclaa.Z3
