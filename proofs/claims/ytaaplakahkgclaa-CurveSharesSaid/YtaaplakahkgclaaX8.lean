/- What these functions compute: a contract for each, walked through its code. -/
import Derived.Test.YtaaplakahkgclaaSLzh
import Derived.Test.YtaaplakahkgclaaKPure
import Derived.Test.YtaaplakahkgclaaProg
import Derived.Test.YtaaplakahkgclaaX1
import Derived.Test.YtaaplakahkgclaaX2
import Derived.Test.YtaaplakahkgclaaX3
import Derived.Test.YtaaplakahkgclaaX4
import Derived.Test.YtaaplakahkgclaaX5
import Derived.Test.YtaaplakahkgclaaX6
import Derived.Test.YtaaplakahkgclaaX7
namespace Go.Proofs.Ytaaplakahkgclaa.X8
open Go Go.Proofs.Ytaaplakahkgclaa.SL Go.Proofs.Ytaaplakahkgclaa.SL.W Go.Proofs.Ytaaplakahkgclaa.SL.F Go.Proofs.Ytaaplakahkgclaa.SL.N Go.Proofs.Ytaaplakahkgclaa.SL.E Go.Proofs.Ytaaplakahkgclaa.SL.K Go.Proofs.Ytaaplakahkgclaa.X1 Go.Proofs.Ytaaplakahkgclaa.X2 Go.Proofs.Ytaaplakahkgclaa.X3 Go.Proofs.Ytaaplakahkgclaa.X4 Go.Proofs.Ytaaplakahkgclaa.X5 Go.Proofs.Ytaaplakahkgclaa.X6 Go.Proofs.Ytaaplakahkgclaa.X7
set_option linter.unusedVariables false
set_option linter.unusedSimpArgs false
set_option maxRecDepth 100000
set_option maxHeartbeats 40000000
def U : Tab where
  und := [(3, .int .i64), (5, .int .u8), (23, .slice 5), (86, .int .u64), (87, .array 5 86), (88, .struct #[{ name := "n", type := 87, offset := 0, embedded := false, tag := "", pkgPath := "orlop/field", byteOffset := 0 }]), (89, .struct #[{ name := "n", type := 87, offset := 0, embedded := false, tag := "", pkgPath := "orlop/field", byteOffset := 0 }]), (131, .array 4 86)]
  fld := [((88, 0), (0, 87)), ((89, 0), (0, 87))]
  sz := [(3, 1), (5, 1), (23, 1), (86, 1), (87, 5), (88, 5), (89, 5), (131, 4)]
  ti := [(3, (1, 8, .int .i64 0)), (5, (1, 1, .int .u8 0)), (23, (1, 24, .slice none 0 0)), (86, (1, 8, .int .u64 0)), (87, (5, 40, z5)), (88, (5, 40, z5)), (89, (5, 40, z5)), (131, (4, 32, .agg #[.int .u64 0, .int .u64 0, .int .u64 0, .int .u64 0]))]
  bld := [(88, [(0, 5)]), (89, [(0, 5)])]

theorem hU : U.OK Try.prog where
  und := by
    intro p hp
    simp only [U, List.mem_cons, List.not_mem_nil, or_false] at hp
    rcases hp with rfl | rfl | rfl | rfl | rfl | rfl | rfl | rfl
    · exact Try.underlying3
    · exact Try.underlying5
    · exact Try.underlying23
    · exact Try.underlying86
    · exact Try.underlying87
    · exact Try.underlying88
    · exact Try.underlying89
    · exact Try.underlying131
  fld := by
    intro p hp
    simp only [U, List.mem_cons, List.not_mem_nil, or_false] at hp
    rcases hp with rfl | rfl
    · exact ⟨_, _, Try.underlying88, rfl, rfl, rfl, Try.prog.types[87]!, by kernel_rfl, by decide +kernel⟩
    · exact ⟨_, _, Try.underlying89, rfl, rfl, rfl, Try.prog.types[87]!, by kernel_rfl, by decide +kernel⟩
  sz := by
    intro p hp
    simp only [U, List.mem_cons, List.not_mem_nil, or_false] at hp
    rcases hp with rfl | rfl | rfl | rfl | rfl | rfl | rfl | rfl
    · exact ⟨Try.prog.types[3]!, by kernel_rfl, by kernel_rfl⟩
    · exact ⟨Try.prog.types[5]!, by kernel_rfl, by kernel_rfl⟩
    · exact ⟨Try.prog.types[23]!, by kernel_rfl, by kernel_rfl⟩
    · exact ⟨Try.prog.types[86]!, by kernel_rfl, by kernel_rfl⟩
    · exact ⟨Try.prog.types[87]!, by kernel_rfl, by kernel_rfl⟩
    · exact ⟨Try.prog.types[88]!, by kernel_rfl, by kernel_rfl⟩
    · exact ⟨Try.prog.types[89]!, by kernel_rfl, by kernel_rfl⟩
    · exact ⟨Try.prog.types[131]!, by kernel_rfl, by kernel_rfl⟩
  ti := by
    intro p hp
    simp only [U, List.mem_cons, List.not_mem_nil, or_false] at hp
    rcases hp with rfl | rfl | rfl | rfl | rfl | rfl | rfl | rfl
    · exact ⟨Try.prog.types[3]!, by kernel_rfl, by kernel_rfl, by kernel_rfl, by kernel_rfl⟩
    · exact ⟨Try.prog.types[5]!, by kernel_rfl, by kernel_rfl, by kernel_rfl, by kernel_rfl⟩
    · exact ⟨Try.prog.types[23]!, by kernel_rfl, by kernel_rfl, by kernel_rfl, by kernel_rfl⟩
    · exact ⟨Try.prog.types[86]!, by kernel_rfl, by kernel_rfl, by kernel_rfl, by kernel_rfl⟩
    · exact ⟨Try.prog.types[87]!, by kernel_rfl, by kernel_rfl, by kernel_rfl, by kernel_rfl⟩
    · exact ⟨Try.prog.types[88]!, by kernel_rfl, by kernel_rfl, by kernel_rfl, by kernel_rfl⟩
    · exact ⟨Try.prog.types[89]!, by kernel_rfl, by kernel_rfl, by kernel_rfl, by kernel_rfl⟩
    · exact ⟨Try.prog.types[131]!, by kernel_rfl, by kernel_rfl, by kernel_rfl, by kernel_rfl⟩
  bld := by
    intro p hp
    simp only [U, List.mem_cons, List.not_mem_nil, or_false] at hp
    rcases hp with rfl | rfl
    · exact ⟨_, Try.underlying88, by kernel_rfl⟩
    · exact ⟨_, Try.underlying89, by kernel_rfl⟩
  mixed := by kernel_rfl

theorem f_Bytes_spec (xs : List Int) (v : Int) (hE : El xs v) (hl : xs.length = 5) :
    CallsS Try.prog 77 [ag .u64 xs] [] (fun r D => ∃ (A : Option Addr) (cb : Nat) (zs : List Int), r = .slice A zs.length cb ∧ D = [row 5 1 (.slice A zs.length cb) zs.length (nums .u8 zs)] ∧ (Dg zs v) ∧ (zs.length = 32) ∧ (In .u8 zs) ∧ (zs.length ≤ cb) ∧ (0 < zs.length → Option.isSome A = true)) := by
  refine CallsS.enter hU Try.f77 _ [.tmp 2] 62 Try.func77 rfl (by decide) rfl rfl (by kernel_rfl) fun w0 W => ?_
  refine RunC.sr ?_
  refine RunR.st (some 1) (.box 89 (.tmp 0)) (Step.box (ag .u64 xs) (by kernel_rfl) (by kernel_rfl) (fun b1 => ?_))
  refine RunR.sl hU [] 1 2 [1, 2] [(1, pt b1), (2, .slice none 0 0)] 1 ?_
  refine RunR.nx ?_
  refine RunR.st (some 10) (.load 89 (.tmp 1)) (Step.load_blk hU 0 b1 (0) 89 (nums .u64 xs) (ag .u64 xs) (by kernel_rfl) (by kernel_rfl) (loadv_seg (n := 5) (by kernel_rfl) (by kernel_rfl) (Seg.all _) (by simp only [List.length_append, nums_length, List.length_cons, List.length_nil] <;> omega)) (by kernel_rfl) ?_)
  refine RunR.st (some 11) (.call { callee := .value (.func 98), args := #[.tmp 10], argTypes := #[89] }) (Step.cn 98 [ag .u64 xs] [] [blk b1 89 (nums .u64 xs)] (f_reduced_spec xs v (by assumption) (by assumption)) [] ?_)
  rintro _ _ ⟨zs2, rfl, rfl, hp3, hp4⟩
  refine RunR.st none (.store 89 (.tmp 1) (.tmp 11)) (Step.ss hU 0 b1 (0) 89 (nums .u64 xs) (nums .u64 zs2) (nums .u64 zs2) (ag .u64 zs2) 5 (by (simp only [List.length_append, nums_length, List.length_cons, List.length_nil, List.length_replicate]; omega)) (show Put _ 0 _ _ from Put.all (by simp only [List.length_append, nums_length, List.length_cons, List.length_nil, List.length_replicate] <;> omega)) ?_)
  refine RunR.nx ?_
  refine RunR.st (some 3) (.alloc 131) (Step.al hU 4 32 (.agg #[.int .u64 0, .int .u64 0, .int .u64 0, .int .u64 0]) (fun b5 => ?_))
  refine RunR.nn ?_
  refine RunC.seq ?_
  refine RunC.sr ?_
  refine RunR.sl hU [] 1 1 [2, 3, 12] [(2, .slice none 0 0), (3, pt b5), (12, pt b1)] 1 ?_
  refine RunR.st (some 13) (.load 87 (.tmp 12)) (Step.load_blk hU 1 b1 (0) 89 (nums .u64 zs2) (ag .u64 zs2) (by kernel_rfl) (by kernel_rfl) (loadv_seg (n := 5) (by kernel_rfl) (by kernel_rfl) (show Seg _ 0 _ from Seg.all _) (by rw [nums_length]; assumption)) (by kernel_rfl) ?_)
  refine RunR.sl hU [] 1 3 [2, 3, 13, 14] [(2, .slice none 0 0), (3, pt b5), (13, ag .u64 zs2), (14, .int .i64 0)] 1 ?_
  refine RunR.nn ?_
  refine RunC.block ?_
  refine RunC.unroll 5 ?_
  refine RunC.sr ?_
  refine RunR.sl hU [] 1 1 [2, 3, 13, 14, 15] [(2, .slice none 0 0), (3, pt b5), (13, ag .u64 zs2), (14, .int .i64 0), (15, .bool true)] 1 ?_
  refine RunR.nn ?_
  refine RunC.seq ?_
  refine RunC.cond (b := true) (by kernel_rfl) (fun _ => ?_) (fun h => by cases h)
  refine RunC.ks ?_
  refine RunC.seq ?_
  refine RunC.block ?_
  refine RunC.sr ?_
  refine RunR.sil hU [] 4 4 [2, 3, 4, 5, 13, 14] [(2, .slice none 0 0), (3, pt b5), (4, .int .i64 0), (5, (nums .u64 zs2).toArray.getD (0 : Int).toNat undef), (13, ag .u64 zs2), (14, .int .i64 0)] ((True) ∧ ((0 ≤ (0 : Int) ∧ (0 : Int) < ((5 : Nat) : Int)) ∧ ((0 : Int)).toNat < (nums .u64 zs2).toArray.size) ∧ (True) ∧ (True) ∧ True) rfl (by kernel_rfl) ⟨trivial, (by (refine ⟨by omega, by simp only [List.size_toArray, nums_length, List.length_cons, List.length_nil]; omega⟩)), trivial, trivial, trivial⟩ ?_
  refine RunR.ev [2, 3, 4, 5, 13, 14] [(2, .slice none 0 0), (3, pt b5), (4, .int .i64 0), (5, (nums .u64 zs2).toArray.getD (0 : Int).toNat undef), (13, ag .u64 zs2), (14, .int .i64 0)] ?_
  refine RunR.enveq [(2, .slice none 0 0), (3, pt b5), (4, .int .i64 0), (5, .int .u64 (zs2.getD (0 : Int).toNat 0)), (13, ag .u64 zs2), (14, .int .i64 0)] (by rw [nums_getD _ _ _ (by omega)]) ?_
  refine RunR.nx ?_
  refine RunR.sil hU [1] 3 3 [2, 3, 5, 6, 13, 14] [(2, .slice none 0 0), (3, pt b5), (5, .int .u64 (zs2.getD (0 : Int).toNat 0)), (6, .int .i64 0), (13, ag .u64 zs2), (14, .int .i64 0)] ((True) ∧ (-9223372036854775808 ≤ ((51 : Int) * 0) ∧ ((51 : Int) * 0) < 9223372036854775808) ∧ (True) ∧ True) rfl (by kernel_rfl) ⟨trivial, (by decide), trivial, trivial⟩ ?_
  refine RunR.nn ?_
  refine RunC.seq ?_
  refine RunC.regionU hU 11 [blk b5 131 (nums .u64 ([0, 0, 0, 0] : List Int))] [0] [9, 10] (bm 11 0) (by kernel_rfl) (by kernel_rfl) (by kernel_rfl) ?_
  refine RunU.sl hU 0 (bm 11 1) 20 (.int .i64 0) ?_
  refine RunU.sil hU true 1 (bm 11 3) 21 (.int .i64 0) (0 ≤ (0 : Int) ∧ 0 < (64 : Int) ∧ -9223372036854775808 ≤ ((0 : Int) / (64 : Int)) ∧ ((0 : Int) / (64 : Int)) < 9223372036854775808) (by kernel_rfl) (by decide) (by kernel_rfl) (by kernel_rfl) (fun _ _ _ h => h) ?_
  refine RunU.sil hU false 2 (bm 11 7) 22 (pt b5) (0 ≤ (0 : Int) ∧ (0 : Int) < ((4 : Nat) : Int)) (by kernel_rfl) (by omega) (by kernel_rfl) (by kernel_rfl) (fun _ _ _ h => h) ?_
  refine RunU.rd 3 (bm 11 15) 23 (.load 86 (.tmp 22)) (.int .u64 (([0, 0, 0, 0] : List Int).getD 0 0)) [0] (Reads.load_blknum hU 0 b5 (0) 131 0 .u64 ([0, 0, 0, 0] : List Int) rfl (by kernel_rfl) (by kernel_rfl) (by omega) (by (simp only [List.length_cons, List.length_nil]; omega))) ?_
  refine RunU.ev [2, 3, 5, 6, 13, 14, 20, 21, 22, 23] [(2, .slice none 0 0), (3, pt b5), (5, .int .u64 (zs2.getD (0 : Int).toNat 0)), (6, .int .i64 0), (13, ag .u64 zs2), (14, .int .i64 0), (20, .int .i64 0), (21, .int .i64 0), (22, pt b5), (23, .int .u64 0)] ?_
  refine RunU.sl hU 4 (bm 11 31) 24 (.int .u64 (zs2.getD (0 : Int).toNat 0)) ?_
  refine RunU.sl hU 5 (bm 11 63) 25 (.int .i64 0) ?_
  refine RunU.sil hU true 6 (bm 11 127) 26 (.int .i64 0) (0 ≤ (0 : Int) ∧ 0 < (64 : Int)) (by kernel_rfl) (by decide) (by kernel_rfl) (by kernel_rfl) (fun _ _ _ h => h) ?_
  refine RunU.sil hU false 7 (bm 11 255) 27 (.int .u64 (IntKind.wrap .u64 ((zs2.getD (0 : Int).toNat 0) * 2 ^ 0))) (0 ≤ (0 : Int)) (by kernel_rfl) (by omega) (by kernel_rfl) (by kernel_rfl) (fun _ _ _ h => h) ?_
  refine RunU.sl hU 8 (bm 11 511) 28 (.int .u64 (bits2 .or .u64 0 (IntKind.wrap .u64 ((zs2.getD (0 : Int).toNat 0) * 2 ^ 0)))) ?_
  refine RunU.sil hU false 9 (bm 11 1023) 29 (pt b5) (0 ≤ (0 : Int) ∧ (0 : Int) < ((4 : Nat) : Int)) (by kernel_rfl) (by omega) (by kernel_rfl) (by kernel_rfl) (fun _ _ _ h => h) ?_
  refine RunU.on none (.store 86 (.tmp 29) (.tmp 28)) 10 (bm 11 2047) [] (Step.store_blknum hU 0 b5 (0) 131 0 .u64 ([0, 0, 0, 0] : List Int) (bits2 .or .u64 0 (IntKind.wrap .u64 ((zs2.getD (0 : Int).toNat 0) * 2 ^ 0))) (by kernel_rfl) (by kernel_rfl) (by kernel_rfl) rfl (by omega) (by (simp only [List.length_cons, List.length_nil]; omega)) ?_)
  refine orR ?_
  refine RunU.turn ([blk b5 131 (nums .u64 ([ bits2 .or .u64 0 (IntKind.wrap .u64 ((zs2.getD (0 : Int).toNat 0) * 2 ^ 0)), 0, 0, 0] : List Int)), blk b1 89 (nums .u64 zs2)]) (fun _ _ w hs => hs) ?_
  refine RunU.ev [2, 3, 5, 6, 13, 14] [(2, .slice none 0 0), (3, pt b5), (5, .int .u64 (zs2.getD (0 : Int).toNat 0)), (6, .int .i64 0), (13, ag .u64 zs2), (14, .int .i64 0)] ?_
  refine RunU.dn ?_
  refine kseq_n ?_
  refine RunC.sr ?_
  refine RunR.sil hU [1] 9 9 [2, 3, 5, 6, 13, 14, 38] [(2, .slice none 0 0), (3, pt b5), (5, .int .u64 (zs2.getD (0 : Int).toNat 0)), (6, .int .i64 0), (13, ag .u64 zs2), (14, .int .i64 0), (38, .bool false)] ((True) ∧ (0 ≤ (0 : Int) ∧ 0 < (64 : Int)) ∧ (True) ∧ (True) ∧ (True) ∧ True) rfl (by kernel_rfl) ⟨trivial, (by decide), trivial, trivial, trivial, trivial⟩ ?_
  refine RunR.nn ?_
  refine RunC.cond (b := false) (by kernel_rfl) (fun h => by cases h) (fun _ => ?_)
  refine RunC.skip ?_
  refine kblock_n ?_
  refine kseq_n ?_
  refine RunC.region ?_
  refine RunR.sil hU [0] 2 2 [2, 3, 13, 14] [(2, .slice none 0 0), (3, pt b5), (13, ag .u64 zs2), (14, .int .i64 1)] ((-9223372036854775808 ≤ ((0 : Int) + 1) ∧ ((0 : Int) + 1) < 9223372036854775808) ∧ (True) ∧ True) rfl (by kernel_rfl) ⟨(by decide), trivial, trivial⟩ ?_
  refine RunR.dn ?_
  refine kround_n ?_
  refine RunC.sr ?_
  refine RunR.sl hU [] 1 1 [2, 3, 13, 14, 15] [(2, .slice none 0 0), (3, pt b5), (13, ag .u64 zs2), (14, .int .i64 1), (15, .bool true)] 1 ?_
  refine RunR.nn ?_
  refine RunC.seq ?_
  refine RunC.cond (b := true) (by kernel_rfl) (fun _ => ?_) (fun h => by cases h)
  refine RunC.ks ?_
  refine RunC.seq ?_
  refine RunC.block ?_
  refine RunC.sr ?_
  refine RunR.sil hU [] 4 4 [2, 3, 4, 5, 13, 14] [(2, .slice none 0 0), (3, pt b5), (4, .int .i64 1), (5, (nums .u64 zs2).toArray.getD (1 : Int).toNat undef), (13, ag .u64 zs2), (14, .int .i64 1)] ((True) ∧ ((0 ≤ (1 : Int) ∧ (1 : Int) < ((5 : Nat) : Int)) ∧ ((1 : Int)).toNat < (nums .u64 zs2).toArray.size) ∧ (True) ∧ (True) ∧ True) rfl (by kernel_rfl) ⟨trivial, (by (refine ⟨by omega, by simp only [List.size_toArray, nums_length, List.length_cons, List.length_nil]; omega⟩)), trivial, trivial, trivial⟩ ?_
  refine RunR.ev [2, 3, 4, 5, 13, 14] [(2, .slice none 0 0), (3, pt b5), (4, .int .i64 1), (5, (nums .u64 zs2).toArray.getD (1 : Int).toNat undef), (13, ag .u64 zs2), (14, .int .i64 1)] ?_
  refine RunR.enveq [(2, .slice none 0 0), (3, pt b5), (4, .int .i64 1), (5, .int .u64 (zs2.getD (1 : Int).toNat 0)), (13, ag .u64 zs2), (14, .int .i64 1)] (by rw [nums_getD _ _ _ (by omega)]) ?_
  refine RunR.nx ?_
  refine RunR.sil hU [1] 3 3 [2, 3, 5, 6, 13, 14] [(2, .slice none 0 0), (3, pt b5), (5, .int .u64 (zs2.getD (1 : Int).toNat 0)), (6, .int .i64 51), (13, ag .u64 zs2), (14, .int .i64 1)] ((True) ∧ (-9223372036854775808 ≤ ((51 : Int) * 1) ∧ ((51 : Int) * 1) < 9223372036854775808) ∧ (True) ∧ True) rfl (by kernel_rfl) ⟨trivial, (by decide), trivial, trivial⟩ ?_
  refine RunR.nn ?_
  refine RunC.seq ?_
  refine RunC.regionU hU 11 [blk b5 131 (nums .u64 ([ bits2 .or .u64 0 (IntKind.wrap .u64 ((zs2.getD (0 : Int).toNat 0) * 2 ^ 0)), 0, 0, 0] : List Int))] [0] [9, 10] (bm 11 0) (by kernel_rfl) (by kernel_rfl) (by kernel_rfl) ?_
  refine RunU.sl hU 0 (bm 11 1) 20 (.int .i64 51) ?_
  refine RunU.sil hU true 1 (bm 11 3) 21 (.int .i64 0) (0 ≤ (51 : Int) ∧ 0 < (64 : Int) ∧ -9223372036854775808 ≤ ((51 : Int) / (64 : Int)) ∧ ((51 : Int) / (64 : Int)) < 9223372036854775808) (by kernel_rfl) (by decide) (by kernel_rfl) (by kernel_rfl) (fun _ _ _ h => h) ?_
  refine RunU.sil hU false 2 (bm 11 7) 22 (pt b5) (0 ≤ (0 : Int) ∧ (0 : Int) < ((4 : Nat) : Int)) (by kernel_rfl) (by omega) (by kernel_rfl) (by kernel_rfl) (fun _ _ _ h => h) ?_
  refine RunU.rd 3 (bm 11 15) 23 (.load 86 (.tmp 22)) (.int .u64 (([ bits2 .or .u64 0 (IntKind.wrap .u64 ((zs2.getD (0 : Int).toNat 0) * 2 ^ 0)), 0, 0, 0] : List Int).getD 0 0)) [0] (Reads.load_blknum hU 0 b5 (0) 131 0 .u64 ([ bits2 .or .u64 0 (IntKind.wrap .u64 ((zs2.getD (0 : Int).toNat 0) * 2 ^ 0)), 0, 0, 0] : List Int) rfl (by kernel_rfl) (by kernel_rfl) (by omega) (by (simp only [List.length_cons, List.length_nil]; omega))) ?_
  refine RunU.ev [2, 3, 5, 6, 13, 14, 20, 21, 22, 23] [(2, .slice none 0 0), (3, pt b5), (5, .int .u64 (zs2.getD (1 : Int).toNat 0)), (6, .int .i64 51), (13, ag .u64 zs2), (14, .int .i64 1), (20, .int .i64 51), (21, .int .i64 0), (22, pt b5), (23, .int .u64 (bits2 .or .u64 0 (IntKind.wrap .u64 ((zs2.getD (0 : Int).toNat 0) * 2 ^ 0))))] ?_
  refine RunU.sl hU 4 (bm 11 31) 24 (.int .u64 (zs2.getD (1 : Int).toNat 0)) ?_
  refine RunU.sl hU 5 (bm 11 63) 25 (.int .i64 51) ?_
  refine RunU.sil hU true 6 (bm 11 127) 26 (.int .i64 51) (0 ≤ (51 : Int) ∧ 0 < (64 : Int)) (by kernel_rfl) (by decide) (by kernel_rfl) (by kernel_rfl) (fun _ _ _ h => h) ?_
  refine RunU.sil hU false 7 (bm 11 255) 27 (.int .u64 (IntKind.wrap .u64 ((zs2.getD (1 : Int).toNat 0) * 2 ^ 51))) (0 ≤ (51 : Int)) (by kernel_rfl) (by omega) (by kernel_rfl) (by kernel_rfl) (fun _ _ _ h => h) ?_
  refine RunU.sl hU 8 (bm 11 511) 28 (.int .u64 (bits2 .or .u64 (bits2 .or .u64 0 (IntKind.wrap .u64 ((zs2.getD (0 : Int).toNat 0) * 2 ^ 0))) (IntKind.wrap .u64 ((zs2.getD (1 : Int).toNat 0) * 2 ^ 51)))) ?_
  refine RunU.sil hU false 9 (bm 11 1023) 29 (pt b5) (0 ≤ (0 : Int) ∧ (0 : Int) < ((4 : Nat) : Int)) (by kernel_rfl) (by omega) (by kernel_rfl) (by kernel_rfl) (fun _ _ _ h => h) ?_
  refine RunU.on none (.store 86 (.tmp 29) (.tmp 28)) 10 (bm 11 2047) [] (Step.store_blknum hU 0 b5 (0) 131 0 .u64 ([ bits2 .or .u64 0 (IntKind.wrap .u64 ((zs2.getD (0 : Int).toNat 0) * 2 ^ 0)), 0, 0, 0] : List Int) (bits2 .or .u64 (bits2 .or .u64 0 (IntKind.wrap .u64 ((zs2.getD (0 : Int).toNat 0) * 2 ^ 0))) (IntKind.wrap .u64 ((zs2.getD (1 : Int).toNat 0) * 2 ^ 51))) (by kernel_rfl) (by kernel_rfl) (by kernel_rfl) rfl (by omega) (by (simp only [List.length_cons, List.length_nil]; omega)) ?_)
  refine orR ?_
  refine RunU.turn ([blk b5 131 (nums .u64 ([ bits2 .or .u64 (bits2 .or .u64 0 (IntKind.wrap .u64 ((zs2.getD (0 : Int).toNat 0) * 2 ^ 0))) (IntKind.wrap .u64 ((zs2.getD (1 : Int).toNat 0) * 2 ^ 51)), 0, 0, 0] : List Int)), blk b1 89 (nums .u64 zs2)]) (fun _ _ w hs => hs) ?_
  refine RunU.ev [2, 3, 5, 6, 13, 14] [(2, .slice none 0 0), (3, pt b5), (5, .int .u64 (zs2.getD (1 : Int).toNat 0)), (6, .int .i64 51), (13, ag .u64 zs2), (14, .int .i64 1)] ?_
  refine RunU.dn ?_
  refine kseq_n ?_
  refine RunC.sr ?_
  refine RunR.sil hU [1, 5, 6] 9 9 [2, 3, 5, 6, 13, 14, 38] [(2, .slice none 0 0), (3, pt b5), (5, .int .u64 (zs2.getD (1 : Int).toNat 0)), (6, .int .i64 51), (13, ag .u64 zs2), (14, .int .i64 1), (38, .bool true)] ((True) ∧ (0 ≤ (51 : Int) ∧ 0 < (64 : Int)) ∧ (True) ∧ (True) ∧ (True) ∧ (0 ≤ (51 : Int) ∧ 0 < (64 : Int) ∧ -9223372036854775808 ≤ ((51 : Int) / (64 : Int)) ∧ ((51 : Int) / (64 : Int)) < 9223372036854775808) ∧ (-9223372036854775808 ≤ ((0 : Int) + 1) ∧ ((0 : Int) + 1) < 9223372036854775808) ∧ (True) ∧ (True) ∧ True) rfl (by kernel_rfl) ⟨trivial, (by decide), trivial, trivial, trivial, (by decide), (by decide), trivial, trivial, trivial⟩ ?_
  refine RunR.nn ?_
  refine RunC.cond (b := true) (by kernel_rfl) (fun _ => ?_) (fun h => by cases h)
  refine RunC.regionU hU 13 [blk b5 131 (nums .u64 ([ bits2 .or .u64 (bits2 .or .u64 0 (IntKind.wrap .u64 ((zs2.getD (0 : Int).toNat 0) * 2 ^ 0))) (IntKind.wrap .u64 ((zs2.getD (1 : Int).toNat 0) * 2 ^ 51)), 0, 0, 0] : List Int))] [0] [11, 12] (bm 13 0) (by kernel_rfl) (by kernel_rfl) (by kernel_rfl) ?_
  refine RunU.sl hU 0 (bm 13 1) 39 (.int .i64 51) ?_
  refine RunU.sil hU true 1 (bm 13 3) 40 (.int .i64 0) (0 ≤ (51 : Int) ∧ 0 < (64 : Int) ∧ -9223372036854775808 ≤ ((51 : Int) / (64 : Int)) ∧ ((51 : Int) / (64 : Int)) < 9223372036854775808) (by kernel_rfl) (by decide) (by kernel_rfl) (by kernel_rfl) (fun _ _ _ h => h) ?_
  refine RunU.sil hU true 2 (bm 13 7) 41 (.int .i64 1) (-9223372036854775808 ≤ ((0 : Int) + 1) ∧ ((0 : Int) + 1) < 9223372036854775808) (by kernel_rfl) (by decide) (by kernel_rfl) (by kernel_rfl) (fun _ _ _ h => h) ?_
  refine RunU.sil hU false 3 (bm 13 15) 42 (.pointer (some ⟨b5, 1, none⟩)) (0 ≤ (1 : Int) ∧ (1 : Int) < ((4 : Nat) : Int)) (by kernel_rfl) (by omega) (by kernel_rfl) (by kernel_rfl) (fun _ _ _ h => h) ?_
  refine RunU.rd 4 (bm 13 31) 43 (.load 86 (.tmp 42)) (.int .u64 (([ bits2 .or .u64 (bits2 .or .u64 0 (IntKind.wrap .u64 ((zs2.getD (0 : Int).toNat 0) * 2 ^ 0))) (IntKind.wrap .u64 ((zs2.getD (1 : Int).toNat 0) * 2 ^ 51)), 0, 0, 0] : List Int).getD 1 0)) [0] (Reads.load_blknum hU 0 b5 (1) 131 1 .u64 ([ bits2 .or .u64 (bits2 .or .u64 0 (IntKind.wrap .u64 ((zs2.getD (0 : Int).toNat 0) * 2 ^ 0))) (IntKind.wrap .u64 ((zs2.getD (1 : Int).toNat 0) * 2 ^ 51)), 0, 0, 0] : List Int) rfl (by kernel_rfl) (by kernel_rfl) (by omega) (by (simp only [List.length_cons, List.length_nil]; omega))) ?_
  refine RunU.ev [2, 3, 5, 6, 13, 14, 38, 39, 40, 41, 42, 43] [(2, .slice none 0 0), (3, pt b5), (5, .int .u64 (zs2.getD (1 : Int).toNat 0)), (6, .int .i64 51), (13, ag .u64 zs2), (14, .int .i64 1), (38, .bool true), (39, .int .i64 51), (40, .int .i64 0), (41, .int .i64 1), (42, .pointer (some ⟨b5, 1, none⟩)), (43, .int .u64 0)] ?_
  refine RunU.sl hU 5 (bm 13 63) 44 (.int .u64 (zs2.getD (1 : Int).toNat 0)) ?_
  refine RunU.sl hU 6 (bm 13 127) 45 (.int .i64 51) ?_
  refine RunU.sil hU true 7 (bm 13 255) 46 (.int .i64 51) (0 ≤ (51 : Int) ∧ 0 < (64 : Int)) (by kernel_rfl) (by decide) (by kernel_rfl) (by kernel_rfl) (fun _ _ _ h => h) ?_
  refine RunU.sil hU true 8 (bm 13 511) 47 (.int .i64 13) (-9223372036854775808 ≤ ((64 : Int) - 51) ∧ ((64 : Int) - 51) < 9223372036854775808) (by kernel_rfl) (by decide) (by kernel_rfl) (by kernel_rfl) (fun _ _ _ h => h) ?_
  refine RunU.sil hU true 9 (bm 13 1023) 48 (.int .u64 ((zs2.getD (1 : Int).toNat 0) / 2 ^ 13)) (0 ≤ (13 : Int)) (by kernel_rfl) (by omega) (by kernel_rfl) (by kernel_rfl) (fun _ _ _ h => h) ?_
  refine RunU.sl hU 10 (bm 13 2047) 49 (.int .u64 (bits2 .or .u64 0 ((zs2.getD (1 : Int).toNat 0) / 2 ^ 13))) ?_
  refine RunU.sil hU false 11 (bm 13 4095) 50 (.pointer (some ⟨b5, 1, none⟩)) (0 ≤ (1 : Int) ∧ (1 : Int) < ((4 : Nat) : Int)) (by kernel_rfl) (by omega) (by kernel_rfl) (by kernel_rfl) (fun _ _ _ h => h) ?_
  refine RunU.on none (.store 86 (.tmp 50) (.tmp 49)) 12 (bm 13 8191) [] (Step.store_blknum hU 0 b5 (1) 131 1 .u64 ([ bits2 .or .u64 (bits2 .or .u64 0 (IntKind.wrap .u64 ((zs2.getD (0 : Int).toNat 0) * 2 ^ 0))) (IntKind.wrap .u64 ((zs2.getD (1 : Int).toNat 0) * 2 ^ 51)), 0, 0, 0] : List Int) (bits2 .or .u64 0 ((zs2.getD (1 : Int).toNat 0) / 2 ^ 13)) (by kernel_rfl) (by kernel_rfl) (by kernel_rfl) rfl (by omega) (by (simp only [List.length_cons, List.length_nil]; omega)) ?_)
  refine orR ?_
  refine RunU.turn ([blk b5 131 (nums .u64 ([ bits2 .or .u64 (bits2 .or .u64 0 (IntKind.wrap .u64 ((zs2.getD (0 : Int).toNat 0) * 2 ^ 0))) (IntKind.wrap .u64 ((zs2.getD (1 : Int).toNat 0) * 2 ^ 51)), bits2 .or .u64 0 ((zs2.getD (1 : Int).toNat 0) / 2 ^ 13), 0, 0] : List Int)), blk b1 89 (nums .u64 zs2)]) (fun _ _ w hs => hs) ?_
  refine RunU.ev [2, 3, 13, 14] [(2, .slice none 0 0), (3, pt b5), (13, ag .u64 zs2), (14, .int .i64 1)] ?_
  refine RunU.dn ?_
  refine kblock_n ?_
  refine kseq_n ?_
  refine RunC.region ?_
  refine RunR.sil hU [0] 2 2 [2, 3, 13, 14] [(2, .slice none 0 0), (3, pt b5), (13, ag .u64 zs2), (14, .int .i64 2)] ((-9223372036854775808 ≤ ((1 : Int) + 1) ∧ ((1 : Int) + 1) < 9223372036854775808) ∧ (True) ∧ True) rfl (by kernel_rfl) ⟨(by decide), trivial, trivial⟩ ?_
  refine RunR.dn ?_
  refine kround_n ?_
  refine RunC.sr ?_
  refine RunR.sl hU [] 1 1 [2, 3, 13, 14, 15] [(2, .slice none 0 0), (3, pt b5), (13, ag .u64 zs2), (14, .int .i64 2), (15, .bool true)] 1 ?_
  refine RunR.nn ?_
  refine RunC.seq ?_
  refine RunC.cond (b := true) (by kernel_rfl) (fun _ => ?_) (fun h => by cases h)
  refine RunC.ks ?_
  refine RunC.seq ?_
  refine RunC.block ?_
  refine RunC.sr ?_
  refine RunR.sil hU [] 4 4 [2, 3, 4, 5, 13, 14] [(2, .slice none 0 0), (3, pt b5), (4, .int .i64 2), (5, (nums .u64 zs2).toArray.getD (2 : Int).toNat undef), (13, ag .u64 zs2), (14, .int .i64 2)] ((True) ∧ ((0 ≤ (2 : Int) ∧ (2 : Int) < ((5 : Nat) : Int)) ∧ ((2 : Int)).toNat < (nums .u64 zs2).toArray.size) ∧ (True) ∧ (True) ∧ True) rfl (by kernel_rfl) ⟨trivial, (by (refine ⟨by omega, by simp only [List.size_toArray, nums_length, List.length_cons, List.length_nil]; omega⟩)), trivial, trivial, trivial⟩ ?_
  refine RunR.ev [2, 3, 4, 5, 13, 14] [(2, .slice none 0 0), (3, pt b5), (4, .int .i64 2), (5, (nums .u64 zs2).toArray.getD (2 : Int).toNat undef), (13, ag .u64 zs2), (14, .int .i64 2)] ?_
  refine RunR.enveq [(2, .slice none 0 0), (3, pt b5), (4, .int .i64 2), (5, .int .u64 (zs2.getD (2 : Int).toNat 0)), (13, ag .u64 zs2), (14, .int .i64 2)] (by rw [nums_getD _ _ _ (by omega)]) ?_
  refine RunR.nx ?_
  refine RunR.sil hU [1] 3 3 [2, 3, 5, 6, 13, 14] [(2, .slice none 0 0), (3, pt b5), (5, .int .u64 (zs2.getD (2 : Int).toNat 0)), (6, .int .i64 102), (13, ag .u64 zs2), (14, .int .i64 2)] ((True) ∧ (-9223372036854775808 ≤ ((51 : Int) * 2) ∧ ((51 : Int) * 2) < 9223372036854775808) ∧ (True) ∧ True) rfl (by kernel_rfl) ⟨trivial, (by decide), trivial, trivial⟩ ?_
  refine RunR.nn ?_
  refine RunC.seq ?_
  refine RunC.regionU hU 11 [blk b5 131 (nums .u64 ([ bits2 .or .u64 (bits2 .or .u64 0 (IntKind.wrap .u64 ((zs2.getD (0 : Int).toNat 0) * 2 ^ 0))) (IntKind.wrap .u64 ((zs2.getD (1 : Int).toNat 0) * 2 ^ 51)), bits2 .or .u64 0 ((zs2.getD (1 : Int).toNat 0) / 2 ^ 13), 0, 0] : List Int))] [0] [9, 10] (bm 11 0) (by kernel_rfl) (by kernel_rfl) (by kernel_rfl) ?_
  refine RunU.sl hU 0 (bm 11 1) 20 (.int .i64 102) ?_
  refine RunU.sil hU true 1 (bm 11 3) 21 (.int .i64 1) (0 ≤ (102 : Int) ∧ 0 < (64 : Int) ∧ -9223372036854775808 ≤ ((102 : Int) / (64 : Int)) ∧ ((102 : Int) / (64 : Int)) < 9223372036854775808) (by kernel_rfl) (by decide) (by kernel_rfl) (by kernel_rfl) (fun _ _ _ h => h) ?_
  refine RunU.sil hU false 2 (bm 11 7) 22 (.pointer (some ⟨b5, 1, none⟩)) (0 ≤ (1 : Int) ∧ (1 : Int) < ((4 : Nat) : Int)) (by kernel_rfl) (by omega) (by kernel_rfl) (by kernel_rfl) (fun _ _ _ h => h) ?_
  refine RunU.rd 3 (bm 11 15) 23 (.load 86 (.tmp 22)) (.int .u64 (([ bits2 .or .u64 (bits2 .or .u64 0 (IntKind.wrap .u64 ((zs2.getD (0 : Int).toNat 0) * 2 ^ 0))) (IntKind.wrap .u64 ((zs2.getD (1 : Int).toNat 0) * 2 ^ 51)), bits2 .or .u64 0 ((zs2.getD (1 : Int).toNat 0) / 2 ^ 13), 0, 0] : List Int).getD 1 0)) [0] (Reads.load_blknum hU 0 b5 (1) 131 1 .u64 ([ bits2 .or .u64 (bits2 .or .u64 0 (IntKind.wrap .u64 ((zs2.getD (0 : Int).toNat 0) * 2 ^ 0))) (IntKind.wrap .u64 ((zs2.getD (1 : Int).toNat 0) * 2 ^ 51)), bits2 .or .u64 0 ((zs2.getD (1 : Int).toNat 0) / 2 ^ 13), 0, 0] : List Int) rfl (by kernel_rfl) (by kernel_rfl) (by omega) (by (simp only [List.length_cons, List.length_nil]; omega))) ?_
  refine RunU.ev [2, 3, 5, 6, 13, 14, 20, 21, 22, 23] [(2, .slice none 0 0), (3, pt b5), (5, .int .u64 (zs2.getD (2 : Int).toNat 0)), (6, .int .i64 102), (13, ag .u64 zs2), (14, .int .i64 2), (20, .int .i64 102), (21, .int .i64 1), (22, .pointer (some ⟨b5, 1, none⟩)), (23, .int .u64 (bits2 .or .u64 0 ((zs2.getD (1 : Int).toNat 0) / 2 ^ 13)))] ?_
  refine RunU.sl hU 4 (bm 11 31) 24 (.int .u64 (zs2.getD (2 : Int).toNat 0)) ?_
  refine RunU.sl hU 5 (bm 11 63) 25 (.int .i64 102) ?_
  refine RunU.sil hU true 6 (bm 11 127) 26 (.int .i64 38) (0 ≤ (102 : Int) ∧ 0 < (64 : Int)) (by kernel_rfl) (by decide) (by kernel_rfl) (by kernel_rfl) (fun _ _ _ h => h) ?_
  refine RunU.sil hU false 7 (bm 11 255) 27 (.int .u64 (IntKind.wrap .u64 ((zs2.getD (2 : Int).toNat 0) * 2 ^ 38))) (0 ≤ (38 : Int)) (by kernel_rfl) (by omega) (by kernel_rfl) (by kernel_rfl) (fun _ _ _ h => h) ?_
  refine RunU.sl hU 8 (bm 11 511) 28 (.int .u64 (bits2 .or .u64 (bits2 .or .u64 0 ((zs2.getD (1 : Int).toNat 0) / 2 ^ 13)) (IntKind.wrap .u64 ((zs2.getD (2 : Int).toNat 0) * 2 ^ 38)))) ?_
  refine RunU.sil hU false 9 (bm 11 1023) 29 (.pointer (some ⟨b5, 1, none⟩)) (0 ≤ (1 : Int) ∧ (1 : Int) < ((4 : Nat) : Int)) (by kernel_rfl) (by omega) (by kernel_rfl) (by kernel_rfl) (fun _ _ _ h => h) ?_
  refine RunU.on none (.store 86 (.tmp 29) (.tmp 28)) 10 (bm 11 2047) [] (Step.store_blknum hU 0 b5 (1) 131 1 .u64 ([ bits2 .or .u64 (bits2 .or .u64 0 (IntKind.wrap .u64 ((zs2.getD (0 : Int).toNat 0) * 2 ^ 0))) (IntKind.wrap .u64 ((zs2.getD (1 : Int).toNat 0) * 2 ^ 51)), bits2 .or .u64 0 ((zs2.getD (1 : Int).toNat 0) / 2 ^ 13), 0, 0] : List Int) (bits2 .or .u64 (bits2 .or .u64 0 ((zs2.getD (1 : Int).toNat 0) / 2 ^ 13)) (IntKind.wrap .u64 ((zs2.getD (2 : Int).toNat 0) * 2 ^ 38))) (by kernel_rfl) (by kernel_rfl) (by kernel_rfl) rfl (by omega) (by (simp only [List.length_cons, List.length_nil]; omega)) ?_)
  refine orR ?_
  refine RunU.turn ([blk b5 131 (nums .u64 ([ bits2 .or .u64 (bits2 .or .u64 0 (IntKind.wrap .u64 ((zs2.getD (0 : Int).toNat 0) * 2 ^ 0))) (IntKind.wrap .u64 ((zs2.getD (1 : Int).toNat 0) * 2 ^ 51)), bits2 .or .u64 (bits2 .or .u64 0 ((zs2.getD (1 : Int).toNat 0) / 2 ^ 13)) (IntKind.wrap .u64 ((zs2.getD (2 : Int).toNat 0) * 2 ^ 38)), 0, 0] : List Int)), blk b1 89 (nums .u64 zs2)]) (fun _ _ w hs => hs) ?_
  refine RunU.ev [2, 3, 5, 6, 13, 14] [(2, .slice none 0 0), (3, pt b5), (5, .int .u64 (zs2.getD (2 : Int).toNat 0)), (6, .int .i64 102), (13, ag .u64 zs2), (14, .int .i64 2)] ?_
  refine RunU.dn ?_
  refine kseq_n ?_
  refine RunC.sr ?_
  refine RunR.sil hU [1, 5, 6] 9 9 [2, 3, 5, 6, 13, 14, 38] [(2, .slice none 0 0), (3, pt b5), (5, .int .u64 (zs2.getD (2 : Int).toNat 0)), (6, .int .i64 102), (13, ag .u64 zs2), (14, .int .i64 2), (38, .bool true)] ((True) ∧ (0 ≤ (102 : Int) ∧ 0 < (64 : Int)) ∧ (True) ∧ (True) ∧ (True) ∧ (0 ≤ (102 : Int) ∧ 0 < (64 : Int) ∧ -9223372036854775808 ≤ ((102 : Int) / (64 : Int)) ∧ ((102 : Int) / (64 : Int)) < 9223372036854775808) ∧ (-9223372036854775808 ≤ ((1 : Int) + 1) ∧ ((1 : Int) + 1) < 9223372036854775808) ∧ (True) ∧ (True) ∧ True) rfl (by kernel_rfl) ⟨trivial, (by decide), trivial, trivial, trivial, (by decide), (by decide), trivial, trivial, trivial⟩ ?_
  refine RunR.nn ?_
  refine RunC.cond (b := true) (by kernel_rfl) (fun _ => ?_) (fun h => by cases h)
  refine RunC.regionU hU 13 [blk b5 131 (nums .u64 ([ bits2 .or .u64 (bits2 .or .u64 0 (IntKind.wrap .u64 ((zs2.getD (0 : Int).toNat 0) * 2 ^ 0))) (IntKind.wrap .u64 ((zs2.getD (1 : Int).toNat 0) * 2 ^ 51)), bits2 .or .u64 (bits2 .or .u64 0 ((zs2.getD (1 : Int).toNat 0) / 2 ^ 13)) (IntKind.wrap .u64 ((zs2.getD (2 : Int).toNat 0) * 2 ^ 38)), 0, 0] : List Int))] [0] [11, 12] (bm 13 0) (by kernel_rfl) (by kernel_rfl) (by kernel_rfl) ?_
  refine RunU.sl hU 0 (bm 13 1) 39 (.int .i64 102) ?_
  refine RunU.sil hU true 1 (bm 13 3) 40 (.int .i64 1) (0 ≤ (102 : Int) ∧ 0 < (64 : Int) ∧ -9223372036854775808 ≤ ((102 : Int) / (64 : Int)) ∧ ((102 : Int) / (64 : Int)) < 9223372036854775808) (by kernel_rfl) (by decide) (by kernel_rfl) (by kernel_rfl) (fun _ _ _ h => h) ?_
  refine RunU.sil hU true 2 (bm 13 7) 41 (.int .i64 2) (-9223372036854775808 ≤ ((1 : Int) + 1) ∧ ((1 : Int) + 1) < 9223372036854775808) (by kernel_rfl) (by decide) (by kernel_rfl) (by kernel_rfl) (fun _ _ _ h => h) ?_
  refine RunU.sil hU false 3 (bm 13 15) 42 (.pointer (some ⟨b5, 2, none⟩)) (0 ≤ (2 : Int) ∧ (2 : Int) < ((4 : Nat) : Int)) (by kernel_rfl) (by omega) (by kernel_rfl) (by kernel_rfl) (fun _ _ _ h => h) ?_
  refine RunU.rd 4 (bm 13 31) 43 (.load 86 (.tmp 42)) (.int .u64 (([ bits2 .or .u64 (bits2 .or .u64 0 (IntKind.wrap .u64 ((zs2.getD (0 : Int).toNat 0) * 2 ^ 0))) (IntKind.wrap .u64 ((zs2.getD (1 : Int).toNat 0) * 2 ^ 51)), bits2 .or .u64 (bits2 .or .u64 0 ((zs2.getD (1 : Int).toNat 0) / 2 ^ 13)) (IntKind.wrap .u64 ((zs2.getD (2 : Int).toNat 0) * 2 ^ 38)), 0, 0] : List Int).getD 2 0)) [0] (Reads.load_blknum hU 0 b5 (2) 131 2 .u64 ([ bits2 .or .u64 (bits2 .or .u64 0 (IntKind.wrap .u64 ((zs2.getD (0 : Int).toNat 0) * 2 ^ 0))) (IntKind.wrap .u64 ((zs2.getD (1 : Int).toNat 0) * 2 ^ 51)), bits2 .or .u64 (bits2 .or .u64 0 ((zs2.getD (1 : Int).toNat 0) / 2 ^ 13)) (IntKind.wrap .u64 ((zs2.getD (2 : Int).toNat 0) * 2 ^ 38)), 0, 0] : List Int) rfl (by kernel_rfl) (by kernel_rfl) (by omega) (by (simp only [List.length_cons, List.length_nil]; omega))) ?_
  refine RunU.ev [2, 3, 5, 6, 13, 14, 38, 39, 40, 41, 42, 43] [(2, .slice none 0 0), (3, pt b5), (5, .int .u64 (zs2.getD (2 : Int).toNat 0)), (6, .int .i64 102), (13, ag .u64 zs2), (14, .int .i64 2), (38, .bool true), (39, .int .i64 102), (40, .int .i64 1), (41, .int .i64 2), (42, .pointer (some ⟨b5, 2, none⟩)), (43, .int .u64 0)] ?_
  refine RunU.sl hU 5 (bm 13 63) 44 (.int .u64 (zs2.getD (2 : Int).toNat 0)) ?_
  refine RunU.sl hU 6 (bm 13 127) 45 (.int .i64 102) ?_
  refine RunU.sil hU true 7 (bm 13 255) 46 (.int .i64 38) (0 ≤ (102 : Int) ∧ 0 < (64 : Int)) (by kernel_rfl) (by decide) (by kernel_rfl) (by kernel_rfl) (fun _ _ _ h => h) ?_
  refine RunU.sil hU true 8 (bm 13 511) 47 (.int .i64 26) (-9223372036854775808 ≤ ((64 : Int) - 38) ∧ ((64 : Int) - 38) < 9223372036854775808) (by kernel_rfl) (by decide) (by kernel_rfl) (by kernel_rfl) (fun _ _ _ h => h) ?_
  refine RunU.sil hU true 9 (bm 13 1023) 48 (.int .u64 ((zs2.getD (2 : Int).toNat 0) / 2 ^ 26)) (0 ≤ (26 : Int)) (by kernel_rfl) (by omega) (by kernel_rfl) (by kernel_rfl) (fun _ _ _ h => h) ?_
  refine RunU.sl hU 10 (bm 13 2047) 49 (.int .u64 (bits2 .or .u64 0 ((zs2.getD (2 : Int).toNat 0) / 2 ^ 26))) ?_
  refine RunU.sil hU false 11 (bm 13 4095) 50 (.pointer (some ⟨b5, 2, none⟩)) (0 ≤ (2 : Int) ∧ (2 : Int) < ((4 : Nat) : Int)) (by kernel_rfl) (by omega) (by kernel_rfl) (by kernel_rfl) (fun _ _ _ h => h) ?_
  refine RunU.on none (.store 86 (.tmp 50) (.tmp 49)) 12 (bm 13 8191) [] (Step.store_blknum hU 0 b5 (2) 131 2 .u64 ([ bits2 .or .u64 (bits2 .or .u64 0 (IntKind.wrap .u64 ((zs2.getD (0 : Int).toNat 0) * 2 ^ 0))) (IntKind.wrap .u64 ((zs2.getD (1 : Int).toNat 0) * 2 ^ 51)), bits2 .or .u64 (bits2 .or .u64 0 ((zs2.getD (1 : Int).toNat 0) / 2 ^ 13)) (IntKind.wrap .u64 ((zs2.getD (2 : Int).toNat 0) * 2 ^ 38)), 0, 0] : List Int) (bits2 .or .u64 0 ((zs2.getD (2 : Int).toNat 0) / 2 ^ 26)) (by kernel_rfl) (by kernel_rfl) (by kernel_rfl) rfl (by omega) (by (simp only [List.length_cons, List.length_nil]; omega)) ?_)
  refine orR ?_
  refine RunU.turn ([blk b5 131 (nums .u64 ([ bits2 .or .u64 (bits2 .or .u64 0 (IntKind.wrap .u64 ((zs2.getD (0 : Int).toNat 0) * 2 ^ 0))) (IntKind.wrap .u64 ((zs2.getD (1 : Int).toNat 0) * 2 ^ 51)), bits2 .or .u64 (bits2 .or .u64 0 ((zs2.getD (1 : Int).toNat 0) / 2 ^ 13)) (IntKind.wrap .u64 ((zs2.getD (2 : Int).toNat 0) * 2 ^ 38)), bits2 .or .u64 0 ((zs2.getD (2 : Int).toNat 0) / 2 ^ 26), 0] : List Int)), blk b1 89 (nums .u64 zs2)]) (fun _ _ w hs => hs) ?_
  refine RunU.ev [2, 3, 13, 14] [(2, .slice none 0 0), (3, pt b5), (13, ag .u64 zs2), (14, .int .i64 2)] ?_
  refine RunU.dn ?_
  refine kblock_n ?_
  refine kseq_n ?_
  refine RunC.region ?_
  refine RunR.sil hU [0] 2 2 [2, 3, 13, 14] [(2, .slice none 0 0), (3, pt b5), (13, ag .u64 zs2), (14, .int .i64 3)] ((-9223372036854775808 ≤ ((2 : Int) + 1) ∧ ((2 : Int) + 1) < 9223372036854775808) ∧ (True) ∧ True) rfl (by kernel_rfl) ⟨(by decide), trivial, trivial⟩ ?_
  refine RunR.dn ?_
  refine kround_n ?_
  refine RunC.sr ?_
  refine RunR.sl hU [] 1 1 [2, 3, 13, 14, 15] [(2, .slice none 0 0), (3, pt b5), (13, ag .u64 zs2), (14, .int .i64 3), (15, .bool true)] 1 ?_
  refine RunR.nn ?_
  refine RunC.seq ?_
  refine RunC.cond (b := true) (by kernel_rfl) (fun _ => ?_) (fun h => by cases h)
  refine RunC.ks ?_
  refine RunC.seq ?_
  refine RunC.block ?_
  refine RunC.sr ?_
  refine RunR.sil hU [] 4 4 [2, 3, 4, 5, 13, 14] [(2, .slice none 0 0), (3, pt b5), (4, .int .i64 3), (5, (nums .u64 zs2).toArray.getD (3 : Int).toNat undef), (13, ag .u64 zs2), (14, .int .i64 3)] ((True) ∧ ((0 ≤ (3 : Int) ∧ (3 : Int) < ((5 : Nat) : Int)) ∧ ((3 : Int)).toNat < (nums .u64 zs2).toArray.size) ∧ (True) ∧ (True) ∧ True) rfl (by kernel_rfl) ⟨trivial, (by (refine ⟨by omega, by simp only [List.size_toArray, nums_length, List.length_cons, List.length_nil]; omega⟩)), trivial, trivial, trivial⟩ ?_
  refine RunR.ev [2, 3, 4, 5, 13, 14] [(2, .slice none 0 0), (3, pt b5), (4, .int .i64 3), (5, (nums .u64 zs2).toArray.getD (3 : Int).toNat undef), (13, ag .u64 zs2), (14, .int .i64 3)] ?_
  refine RunR.enveq [(2, .slice none 0 0), (3, pt b5), (4, .int .i64 3), (5, .int .u64 (zs2.getD (3 : Int).toNat 0)), (13, ag .u64 zs2), (14, .int .i64 3)] (by rw [nums_getD _ _ _ (by omega)]) ?_
  refine RunR.nx ?_
  refine RunR.sil hU [1] 3 3 [2, 3, 5, 6, 13, 14] [(2, .slice none 0 0), (3, pt b5), (5, .int .u64 (zs2.getD (3 : Int).toNat 0)), (6, .int .i64 153), (13, ag .u64 zs2), (14, .int .i64 3)] ((True) ∧ (-9223372036854775808 ≤ ((51 : Int) * 3) ∧ ((51 : Int) * 3) < 9223372036854775808) ∧ (True) ∧ True) rfl (by kernel_rfl) ⟨trivial, (by decide), trivial, trivial⟩ ?_
  refine RunR.nn ?_
  refine RunC.seq ?_
  refine RunC.regionU hU 11 [blk b5 131 (nums .u64 ([ bits2 .or .u64 (bits2 .or .u64 0 (IntKind.wrap .u64 ((zs2.getD (0 : Int).toNat 0) * 2 ^ 0))) (IntKind.wrap .u64 ((zs2.getD (1 : Int).toNat 0) * 2 ^ 51)), bits2 .or .u64 (bits2 .or .u64 0 ((zs2.getD (1 : Int).toNat 0) / 2 ^ 13)) (IntKind.wrap .u64 ((zs2.getD (2 : Int).toNat 0) * 2 ^ 38)), bits2 .or .u64 0 ((zs2.getD (2 : Int).toNat 0) / 2 ^ 26), 0] : List Int))] [0] [9, 10] (bm 11 0) (by kernel_rfl) (by kernel_rfl) (by kernel_rfl) ?_
  refine RunU.sl hU 0 (bm 11 1) 20 (.int .i64 153) ?_
  refine RunU.sil hU true 1 (bm 11 3) 21 (.int .i64 2) (0 ≤ (153 : Int) ∧ 0 < (64 : Int) ∧ -9223372036854775808 ≤ ((153 : Int) / (64 : Int)) ∧ ((153 : Int) / (64 : Int)) < 9223372036854775808) (by kernel_rfl) (by decide) (by kernel_rfl) (by kernel_rfl) (fun _ _ _ h => h) ?_
  refine RunU.sil hU false 2 (bm 11 7) 22 (.pointer (some ⟨b5, 2, none⟩)) (0 ≤ (2 : Int) ∧ (2 : Int) < ((4 : Nat) : Int)) (by kernel_rfl) (by omega) (by kernel_rfl) (by kernel_rfl) (fun _ _ _ h => h) ?_
  refine RunU.rd 3 (bm 11 15) 23 (.load 86 (.tmp 22)) (.int .u64 (([ bits2 .or .u64 (bits2 .or .u64 0 (IntKind.wrap .u64 ((zs2.getD (0 : Int).toNat 0) * 2 ^ 0))) (IntKind.wrap .u64 ((zs2.getD (1 : Int).toNat 0) * 2 ^ 51)), bits2 .or .u64 (bits2 .or .u64 0 ((zs2.getD (1 : Int).toNat 0) / 2 ^ 13)) (IntKind.wrap .u64 ((zs2.getD (2 : Int).toNat 0) * 2 ^ 38)), bits2 .or .u64 0 ((zs2.getD (2 : Int).toNat 0) / 2 ^ 26), 0] : List Int).getD 2 0)) [0] (Reads.load_blknum hU 0 b5 (2) 131 2 .u64 ([ bits2 .or .u64 (bits2 .or .u64 0 (IntKind.wrap .u64 ((zs2.getD (0 : Int).toNat 0) * 2 ^ 0))) (IntKind.wrap .u64 ((zs2.getD (1 : Int).toNat 0) * 2 ^ 51)), bits2 .or .u64 (bits2 .or .u64 0 ((zs2.getD (1 : Int).toNat 0) / 2 ^ 13)) (IntKind.wrap .u64 ((zs2.getD (2 : Int).toNat 0) * 2 ^ 38)), bits2 .or .u64 0 ((zs2.getD (2 : Int).toNat 0) / 2 ^ 26), 0] : List Int) rfl (by kernel_rfl) (by kernel_rfl) (by omega) (by (simp only [List.length_cons, List.length_nil]; omega))) ?_
  refine RunU.ev [2, 3, 5, 6, 13, 14, 20, 21, 22, 23] [(2, .slice none 0 0), (3, pt b5), (5, .int .u64 (zs2.getD (3 : Int).toNat 0)), (6, .int .i64 153), (13, ag .u64 zs2), (14, .int .i64 3), (20, .int .i64 153), (21, .int .i64 2), (22, .pointer (some ⟨b5, 2, none⟩)), (23, .int .u64 (bits2 .or .u64 0 ((zs2.getD (2 : Int).toNat 0) / 2 ^ 26)))] ?_
  refine RunU.sl hU 4 (bm 11 31) 24 (.int .u64 (zs2.getD (3 : Int).toNat 0)) ?_
  refine RunU.sl hU 5 (bm 11 63) 25 (.int .i64 153) ?_
  refine RunU.sil hU true 6 (bm 11 127) 26 (.int .i64 25) (0 ≤ (153 : Int) ∧ 0 < (64 : Int)) (by kernel_rfl) (by decide) (by kernel_rfl) (by kernel_rfl) (fun _ _ _ h => h) ?_
  refine RunU.sil hU false 7 (bm 11 255) 27 (.int .u64 (IntKind.wrap .u64 ((zs2.getD (3 : Int).toNat 0) * 2 ^ 25))) (0 ≤ (25 : Int)) (by kernel_rfl) (by omega) (by kernel_rfl) (by kernel_rfl) (fun _ _ _ h => h) ?_
  refine RunU.sl hU 8 (bm 11 511) 28 (.int .u64 (bits2 .or .u64 (bits2 .or .u64 0 ((zs2.getD (2 : Int).toNat 0) / 2 ^ 26)) (IntKind.wrap .u64 ((zs2.getD (3 : Int).toNat 0) * 2 ^ 25)))) ?_
  refine RunU.sil hU false 9 (bm 11 1023) 29 (.pointer (some ⟨b5, 2, none⟩)) (0 ≤ (2 : Int) ∧ (2 : Int) < ((4 : Nat) : Int)) (by kernel_rfl) (by omega) (by kernel_rfl) (by kernel_rfl) (fun _ _ _ h => h) ?_
  refine RunU.on none (.store 86 (.tmp 29) (.tmp 28)) 10 (bm 11 2047) [] (Step.store_blknum hU 0 b5 (2) 131 2 .u64 ([ bits2 .or .u64 (bits2 .or .u64 0 (IntKind.wrap .u64 ((zs2.getD (0 : Int).toNat 0) * 2 ^ 0))) (IntKind.wrap .u64 ((zs2.getD (1 : Int).toNat 0) * 2 ^ 51)), bits2 .or .u64 (bits2 .or .u64 0 ((zs2.getD (1 : Int).toNat 0) / 2 ^ 13)) (IntKind.wrap .u64 ((zs2.getD (2 : Int).toNat 0) * 2 ^ 38)), bits2 .or .u64 0 ((zs2.getD (2 : Int).toNat 0) / 2 ^ 26), 0] : List Int) (bits2 .or .u64 (bits2 .or .u64 0 ((zs2.getD (2 : Int).toNat 0) / 2 ^ 26)) (IntKind.wrap .u64 ((zs2.getD (3 : Int).toNat 0) * 2 ^ 25))) (by kernel_rfl) (by kernel_rfl) (by kernel_rfl) rfl (by omega) (by (simp only [List.length_cons, List.length_nil]; omega)) ?_)
  refine orR ?_
  refine RunU.turn ([blk b5 131 (nums .u64 ([ bits2 .or .u64 (bits2 .or .u64 0 (IntKind.wrap .u64 ((zs2.getD (0 : Int).toNat 0) * 2 ^ 0))) (IntKind.wrap .u64 ((zs2.getD (1 : Int).toNat 0) * 2 ^ 51)), bits2 .or .u64 (bits2 .or .u64 0 ((zs2.getD (1 : Int).toNat 0) / 2 ^ 13)) (IntKind.wrap .u64 ((zs2.getD (2 : Int).toNat 0) * 2 ^ 38)), bits2 .or .u64 (bits2 .or .u64 0 ((zs2.getD (2 : Int).toNat 0) / 2 ^ 26)) (IntKind.wrap .u64 ((zs2.getD (3 : Int).toNat 0) * 2 ^ 25)), 0] : List Int)), blk b1 89 (nums .u64 zs2)]) (fun _ _ w hs => hs) ?_
  refine RunU.ev [2, 3, 5, 6, 13, 14] [(2, .slice none 0 0), (3, pt b5), (5, .int .u64 (zs2.getD (3 : Int).toNat 0)), (6, .int .i64 153), (13, ag .u64 zs2), (14, .int .i64 3)] ?_
  refine RunU.dn ?_
  refine kseq_n ?_
  refine RunC.sr ?_
  refine RunR.sil hU [1, 5, 6] 9 9 [2, 3, 5, 6, 13, 14, 38] [(2, .slice none 0 0), (3, pt b5), (5, .int .u64 (zs2.getD (3 : Int).toNat 0)), (6, .int .i64 153), (13, ag .u64 zs2), (14, .int .i64 3), (38, .bool true)] ((True) ∧ (0 ≤ (153 : Int) ∧ 0 < (64 : Int)) ∧ (True) ∧ (True) ∧ (True) ∧ (0 ≤ (153 : Int) ∧ 0 < (64 : Int) ∧ -9223372036854775808 ≤ ((153 : Int) / (64 : Int)) ∧ ((153 : Int) / (64 : Int)) < 9223372036854775808) ∧ (-9223372036854775808 ≤ ((2 : Int) + 1) ∧ ((2 : Int) + 1) < 9223372036854775808) ∧ (True) ∧ (True) ∧ True) rfl (by kernel_rfl) ⟨trivial, (by decide), trivial, trivial, trivial, (by decide), (by decide), trivial, trivial, trivial⟩ ?_
  refine RunR.nn ?_
  refine RunC.cond (b := true) (by kernel_rfl) (fun _ => ?_) (fun h => by cases h)
  refine RunC.regionU hU 13 [blk b5 131 (nums .u64 ([ bits2 .or .u64 (bits2 .or .u64 0 (IntKind.wrap .u64 ((zs2.getD (0 : Int).toNat 0) * 2 ^ 0))) (IntKind.wrap .u64 ((zs2.getD (1 : Int).toNat 0) * 2 ^ 51)), bits2 .or .u64 (bits2 .or .u64 0 ((zs2.getD (1 : Int).toNat 0) / 2 ^ 13)) (IntKind.wrap .u64 ((zs2.getD (2 : Int).toNat 0) * 2 ^ 38)), bits2 .or .u64 (bits2 .or .u64 0 ((zs2.getD (2 : Int).toNat 0) / 2 ^ 26)) (IntKind.wrap .u64 ((zs2.getD (3 : Int).toNat 0) * 2 ^ 25)), 0] : List Int))] [0] [11, 12] (bm 13 0) (by kernel_rfl) (by kernel_rfl) (by kernel_rfl) ?_
  refine RunU.sl hU 0 (bm 13 1) 39 (.int .i64 153) ?_
  refine RunU.sil hU true 1 (bm 13 3) 40 (.int .i64 2) (0 ≤ (153 : Int) ∧ 0 < (64 : Int) ∧ -9223372036854775808 ≤ ((153 : Int) / (64 : Int)) ∧ ((153 : Int) / (64 : Int)) < 9223372036854775808) (by kernel_rfl) (by decide) (by kernel_rfl) (by kernel_rfl) (fun _ _ _ h => h) ?_
  refine RunU.sil hU true 2 (bm 13 7) 41 (.int .i64 3) (-9223372036854775808 ≤ ((2 : Int) + 1) ∧ ((2 : Int) + 1) < 9223372036854775808) (by kernel_rfl) (by decide) (by kernel_rfl) (by kernel_rfl) (fun _ _ _ h => h) ?_
  refine RunU.sil hU false 3 (bm 13 15) 42 (.pointer (some ⟨b5, 3, none⟩)) (0 ≤ (3 : Int) ∧ (3 : Int) < ((4 : Nat) : Int)) (by kernel_rfl) (by omega) (by kernel_rfl) (by kernel_rfl) (fun _ _ _ h => h) ?_
  refine RunU.rd 4 (bm 13 31) 43 (.load 86 (.tmp 42)) (.int .u64 (([ bits2 .or .u64 (bits2 .or .u64 0 (IntKind.wrap .u64 ((zs2.getD (0 : Int).toNat 0) * 2 ^ 0))) (IntKind.wrap .u64 ((zs2.getD (1 : Int).toNat 0) * 2 ^ 51)), bits2 .or .u64 (bits2 .or .u64 0 ((zs2.getD (1 : Int).toNat 0) / 2 ^ 13)) (IntKind.wrap .u64 ((zs2.getD (2 : Int).toNat 0) * 2 ^ 38)), bits2 .or .u64 (bits2 .or .u64 0 ((zs2.getD (2 : Int).toNat 0) / 2 ^ 26)) (IntKind.wrap .u64 ((zs2.getD (3 : Int).toNat 0) * 2 ^ 25)), 0] : List Int).getD 3 0)) [0] (Reads.load_blknum hU 0 b5 (3) 131 3 .u64 ([ bits2 .or .u64 (bits2 .or .u64 0 (IntKind.wrap .u64 ((zs2.getD (0 : Int).toNat 0) * 2 ^ 0))) (IntKind.wrap .u64 ((zs2.getD (1 : Int).toNat 0) * 2 ^ 51)), bits2 .or .u64 (bits2 .or .u64 0 ((zs2.getD (1 : Int).toNat 0) / 2 ^ 13)) (IntKind.wrap .u64 ((zs2.getD (2 : Int).toNat 0) * 2 ^ 38)), bits2 .or .u64 (bits2 .or .u64 0 ((zs2.getD (2 : Int).toNat 0) / 2 ^ 26)) (IntKind.wrap .u64 ((zs2.getD (3 : Int).toNat 0) * 2 ^ 25)), 0] : List Int) rfl (by kernel_rfl) (by kernel_rfl) (by omega) (by (simp only [List.length_cons, List.length_nil]; omega))) ?_
  refine RunU.ev [2, 3, 5, 6, 13, 14, 38, 39, 40, 41, 42, 43] [(2, .slice none 0 0), (3, pt b5), (5, .int .u64 (zs2.getD (3 : Int).toNat 0)), (6, .int .i64 153), (13, ag .u64 zs2), (14, .int .i64 3), (38, .bool true), (39, .int .i64 153), (40, .int .i64 2), (41, .int .i64 3), (42, .pointer (some ⟨b5, 3, none⟩)), (43, .int .u64 0)] ?_
  refine RunU.sl hU 5 (bm 13 63) 44 (.int .u64 (zs2.getD (3 : Int).toNat 0)) ?_
  refine RunU.sl hU 6 (bm 13 127) 45 (.int .i64 153) ?_
  refine RunU.sil hU true 7 (bm 13 255) 46 (.int .i64 25) (0 ≤ (153 : Int) ∧ 0 < (64 : Int)) (by kernel_rfl) (by decide) (by kernel_rfl) (by kernel_rfl) (fun _ _ _ h => h) ?_
  refine RunU.sil hU true 8 (bm 13 511) 47 (.int .i64 39) (-9223372036854775808 ≤ ((64 : Int) - 25) ∧ ((64 : Int) - 25) < 9223372036854775808) (by kernel_rfl) (by decide) (by kernel_rfl) (by kernel_rfl) (fun _ _ _ h => h) ?_
  refine RunU.sil hU true 9 (bm 13 1023) 48 (.int .u64 ((zs2.getD (3 : Int).toNat 0) / 2 ^ 39)) (0 ≤ (39 : Int)) (by kernel_rfl) (by omega) (by kernel_rfl) (by kernel_rfl) (fun _ _ _ h => h) ?_
  refine RunU.sl hU 10 (bm 13 2047) 49 (.int .u64 (bits2 .or .u64 0 ((zs2.getD (3 : Int).toNat 0) / 2 ^ 39))) ?_
  refine RunU.sil hU false 11 (bm 13 4095) 50 (.pointer (some ⟨b5, 3, none⟩)) (0 ≤ (3 : Int) ∧ (3 : Int) < ((4 : Nat) : Int)) (by kernel_rfl) (by omega) (by kernel_rfl) (by kernel_rfl) (fun _ _ _ h => h) ?_
  refine RunU.on none (.store 86 (.tmp 50) (.tmp 49)) 12 (bm 13 8191) [] (Step.store_blknum hU 0 b5 (3) 131 3 .u64 ([ bits2 .or .u64 (bits2 .or .u64 0 (IntKind.wrap .u64 ((zs2.getD (0 : Int).toNat 0) * 2 ^ 0))) (IntKind.wrap .u64 ((zs2.getD (1 : Int).toNat 0) * 2 ^ 51)), bits2 .or .u64 (bits2 .or .u64 0 ((zs2.getD (1 : Int).toNat 0) / 2 ^ 13)) (IntKind.wrap .u64 ((zs2.getD (2 : Int).toNat 0) * 2 ^ 38)), bits2 .or .u64 (bits2 .or .u64 0 ((zs2.getD (2 : Int).toNat 0) / 2 ^ 26)) (IntKind.wrap .u64 ((zs2.getD (3 : Int).toNat 0) * 2 ^ 25)), 0] : List Int) (bits2 .or .u64 0 ((zs2.getD (3 : Int).toNat 0) / 2 ^ 39)) (by kernel_rfl) (by kernel_rfl) (by kernel_rfl) rfl (by omega) (by (simp only [List.length_cons, List.length_nil]; omega)) ?_)
  refine orR ?_
  refine RunU.turn ([blk b5 131 (nums .u64 ([ bits2 .or .u64 (bits2 .or .u64 0 (IntKind.wrap .u64 ((zs2.getD (0 : Int).toNat 0) * 2 ^ 0))) (IntKind.wrap .u64 ((zs2.getD (1 : Int).toNat 0) * 2 ^ 51)), bits2 .or .u64 (bits2 .or .u64 0 ((zs2.getD (1 : Int).toNat 0) / 2 ^ 13)) (IntKind.wrap .u64 ((zs2.getD (2 : Int).toNat 0) * 2 ^ 38)), bits2 .or .u64 (bits2 .or .u64 0 ((zs2.getD (2 : Int).toNat 0) / 2 ^ 26)) (IntKind.wrap .u64 ((zs2.getD (3 : Int).toNat 0) * 2 ^ 25)), bits2 .or .u64 0 ((zs2.getD (3 : Int).toNat 0) / 2 ^ 39)] : List Int)), blk b1 89 (nums .u64 zs2)]) (fun _ _ w hs => hs) ?_
  refine RunU.ev [2, 3, 13, 14] [(2, .slice none 0 0), (3, pt b5), (13, ag .u64 zs2), (14, .int .i64 3)] ?_
  refine RunU.dn ?_
  refine kblock_n ?_
  refine kseq_n ?_
  refine RunC.region ?_
  refine RunR.sil hU [0] 2 2 [2, 3, 13, 14] [(2, .slice none 0 0), (3, pt b5), (13, ag .u64 zs2), (14, .int .i64 4)] ((-9223372036854775808 ≤ ((3 : Int) + 1) ∧ ((3 : Int) + 1) < 9223372036854775808) ∧ (True) ∧ True) rfl (by kernel_rfl) ⟨(by decide), trivial, trivial⟩ ?_
  refine RunR.dn ?_
  refine kround_n ?_
  refine RunC.sr ?_
  refine RunR.sl hU [] 1 1 [2, 3, 13, 14, 15] [(2, .slice none 0 0), (3, pt b5), (13, ag .u64 zs2), (14, .int .i64 4), (15, .bool true)] 1 ?_
  refine RunR.nn ?_
  refine RunC.seq ?_
  refine RunC.cond (b := true) (by kernel_rfl) (fun _ => ?_) (fun h => by cases h)
  refine RunC.ks ?_
  refine RunC.seq ?_
  refine RunC.block ?_
  refine RunC.sr ?_
  refine RunR.sil hU [] 4 4 [2, 3, 4, 5, 13, 14] [(2, .slice none 0 0), (3, pt b5), (4, .int .i64 4), (5, (nums .u64 zs2).toArray.getD (4 : Int).toNat undef), (13, ag .u64 zs2), (14, .int .i64 4)] ((True) ∧ ((0 ≤ (4 : Int) ∧ (4 : Int) < ((5 : Nat) : Int)) ∧ ((4 : Int)).toNat < (nums .u64 zs2).toArray.size) ∧ (True) ∧ (True) ∧ True) rfl (by kernel_rfl) ⟨trivial, (by (refine ⟨by omega, by simp only [List.size_toArray, nums_length, List.length_cons, List.length_nil]; omega⟩)), trivial, trivial, trivial⟩ ?_
  refine RunR.ev [2, 3, 4, 5, 13, 14] [(2, .slice none 0 0), (3, pt b5), (4, .int .i64 4), (5, (nums .u64 zs2).toArray.getD (4 : Int).toNat undef), (13, ag .u64 zs2), (14, .int .i64 4)] ?_
  refine RunR.enveq [(2, .slice none 0 0), (3, pt b5), (4, .int .i64 4), (5, .int .u64 (zs2.getD (4 : Int).toNat 0)), (13, ag .u64 zs2), (14, .int .i64 4)] (by rw [nums_getD _ _ _ (by omega)]) ?_
  refine RunR.nx ?_
  refine RunR.sil hU [1] 3 3 [2, 3, 5, 6, 13, 14] [(2, .slice none 0 0), (3, pt b5), (5, .int .u64 (zs2.getD (4 : Int).toNat 0)), (6, .int .i64 204), (13, ag .u64 zs2), (14, .int .i64 4)] ((True) ∧ (-9223372036854775808 ≤ ((51 : Int) * 4) ∧ ((51 : Int) * 4) < 9223372036854775808) ∧ (True) ∧ True) rfl (by kernel_rfl) ⟨trivial, (by decide), trivial, trivial⟩ ?_
  refine RunR.nn ?_
  refine RunC.seq ?_
  refine RunC.regionU hU 11 [blk b5 131 (nums .u64 ([ bits2 .or .u64 (bits2 .or .u64 0 (IntKind.wrap .u64 ((zs2.getD (0 : Int).toNat 0) * 2 ^ 0))) (IntKind.wrap .u64 ((zs2.getD (1 : Int).toNat 0) * 2 ^ 51)), bits2 .or .u64 (bits2 .or .u64 0 ((zs2.getD (1 : Int).toNat 0) / 2 ^ 13)) (IntKind.wrap .u64 ((zs2.getD (2 : Int).toNat 0) * 2 ^ 38)), bits2 .or .u64 (bits2 .or .u64 0 ((zs2.getD (2 : Int).toNat 0) / 2 ^ 26)) (IntKind.wrap .u64 ((zs2.getD (3 : Int).toNat 0) * 2 ^ 25)), bits2 .or .u64 0 ((zs2.getD (3 : Int).toNat 0) / 2 ^ 39)] : List Int))] [0] [9, 10] (bm 11 0) (by kernel_rfl) (by kernel_rfl) (by kernel_rfl) ?_
  refine RunU.sl hU 0 (bm 11 1) 20 (.int .i64 204) ?_
  refine RunU.sil hU true 1 (bm 11 3) 21 (.int .i64 3) (0 ≤ (204 : Int) ∧ 0 < (64 : Int) ∧ -9223372036854775808 ≤ ((204 : Int) / (64 : Int)) ∧ ((204 : Int) / (64 : Int)) < 9223372036854775808) (by kernel_rfl) (by decide) (by kernel_rfl) (by kernel_rfl) (fun _ _ _ h => h) ?_
  refine RunU.sil hU false 2 (bm 11 7) 22 (.pointer (some ⟨b5, 3, none⟩)) (0 ≤ (3 : Int) ∧ (3 : Int) < ((4 : Nat) : Int)) (by kernel_rfl) (by omega) (by kernel_rfl) (by kernel_rfl) (fun _ _ _ h => h) ?_
  refine RunU.rd 3 (bm 11 15) 23 (.load 86 (.tmp 22)) (.int .u64 (([ bits2 .or .u64 (bits2 .or .u64 0 (IntKind.wrap .u64 ((zs2.getD (0 : Int).toNat 0) * 2 ^ 0))) (IntKind.wrap .u64 ((zs2.getD (1 : Int).toNat 0) * 2 ^ 51)), bits2 .or .u64 (bits2 .or .u64 0 ((zs2.getD (1 : Int).toNat 0) / 2 ^ 13)) (IntKind.wrap .u64 ((zs2.getD (2 : Int).toNat 0) * 2 ^ 38)), bits2 .or .u64 (bits2 .or .u64 0 ((zs2.getD (2 : Int).toNat 0) / 2 ^ 26)) (IntKind.wrap .u64 ((zs2.getD (3 : Int).toNat 0) * 2 ^ 25)), bits2 .or .u64 0 ((zs2.getD (3 : Int).toNat 0) / 2 ^ 39)] : List Int).getD 3 0)) [0] (Reads.load_blknum hU 0 b5 (3) 131 3 .u64 ([ bits2 .or .u64 (bits2 .or .u64 0 (IntKind.wrap .u64 ((zs2.getD (0 : Int).toNat 0) * 2 ^ 0))) (IntKind.wrap .u64 ((zs2.getD (1 : Int).toNat 0) * 2 ^ 51)), bits2 .or .u64 (bits2 .or .u64 0 ((zs2.getD (1 : Int).toNat 0) / 2 ^ 13)) (IntKind.wrap .u64 ((zs2.getD (2 : Int).toNat 0) * 2 ^ 38)), bits2 .or .u64 (bits2 .or .u64 0 ((zs2.getD (2 : Int).toNat 0) / 2 ^ 26)) (IntKind.wrap .u64 ((zs2.getD (3 : Int).toNat 0) * 2 ^ 25)), bits2 .or .u64 0 ((zs2.getD (3 : Int).toNat 0) / 2 ^ 39)] : List Int) rfl (by kernel_rfl) (by kernel_rfl) (by omega) (by (simp only [List.length_cons, List.length_nil]; omega))) ?_
  refine RunU.ev [2, 3, 5, 6, 13, 14, 20, 21, 22, 23] [(2, .slice none 0 0), (3, pt b5), (5, .int .u64 (zs2.getD (4 : Int).toNat 0)), (6, .int .i64 204), (13, ag .u64 zs2), (14, .int .i64 4), (20, .int .i64 204), (21, .int .i64 3), (22, .pointer (some ⟨b5, 3, none⟩)), (23, .int .u64 (bits2 .or .u64 0 ((zs2.getD (3 : Int).toNat 0) / 2 ^ 39)))] ?_
  refine RunU.sl hU 4 (bm 11 31) 24 (.int .u64 (zs2.getD (4 : Int).toNat 0)) ?_
  refine RunU.sl hU 5 (bm 11 63) 25 (.int .i64 204) ?_
  refine RunU.sil hU true 6 (bm 11 127) 26 (.int .i64 12) (0 ≤ (204 : Int) ∧ 0 < (64 : Int)) (by kernel_rfl) (by decide) (by kernel_rfl) (by kernel_rfl) (fun _ _ _ h => h) ?_
  refine RunU.sil hU false 7 (bm 11 255) 27 (.int .u64 (IntKind.wrap .u64 ((zs2.getD (4 : Int).toNat 0) * 2 ^ 12))) (0 ≤ (12 : Int)) (by kernel_rfl) (by omega) (by kernel_rfl) (by kernel_rfl) (fun _ _ _ h => h) ?_
  refine RunU.sl hU 8 (bm 11 511) 28 (.int .u64 (bits2 .or .u64 (bits2 .or .u64 0 ((zs2.getD (3 : Int).toNat 0) / 2 ^ 39)) (IntKind.wrap .u64 ((zs2.getD (4 : Int).toNat 0) * 2 ^ 12)))) ?_
  refine RunU.sil hU false 9 (bm 11 1023) 29 (.pointer (some ⟨b5, 3, none⟩)) (0 ≤ (3 : Int) ∧ (3 : Int) < ((4 : Nat) : Int)) (by kernel_rfl) (by omega) (by kernel_rfl) (by kernel_rfl) (fun _ _ _ h => h) ?_
  refine RunU.on none (.store 86 (.tmp 29) (.tmp 28)) 10 (bm 11 2047) [] (Step.store_blknum hU 0 b5 (3) 131 3 .u64 ([ bits2 .or .u64 (bits2 .or .u64 0 (IntKind.wrap .u64 ((zs2.getD (0 : Int).toNat 0) * 2 ^ 0))) (IntKind.wrap .u64 ((zs2.getD (1 : Int).toNat 0) * 2 ^ 51)), bits2 .or .u64 (bits2 .or .u64 0 ((zs2.getD (1 : Int).toNat 0) / 2 ^ 13)) (IntKind.wrap .u64 ((zs2.getD (2 : Int).toNat 0) * 2 ^ 38)), bits2 .or .u64 (bits2 .or .u64 0 ((zs2.getD (2 : Int).toNat 0) / 2 ^ 26)) (IntKind.wrap .u64 ((zs2.getD (3 : Int).toNat 0) * 2 ^ 25)), bits2 .or .u64 0 ((zs2.getD (3 : Int).toNat 0) / 2 ^ 39)] : List Int) (bits2 .or .u64 (bits2 .or .u64 0 ((zs2.getD (3 : Int).toNat 0) / 2 ^ 39)) (IntKind.wrap .u64 ((zs2.getD (4 : Int).toNat 0) * 2 ^ 12))) (by kernel_rfl) (by kernel_rfl) (by kernel_rfl) rfl (by omega) (by (simp only [List.length_cons, List.length_nil]; omega)) ?_)
  refine orR ?_
  refine RunU.turn ([blk b5 131 (nums .u64 ([ bits2 .or .u64 (bits2 .or .u64 0 (IntKind.wrap .u64 ((zs2.getD (0 : Int).toNat 0) * 2 ^ 0))) (IntKind.wrap .u64 ((zs2.getD (1 : Int).toNat 0) * 2 ^ 51)), bits2 .or .u64 (bits2 .or .u64 0 ((zs2.getD (1 : Int).toNat 0) / 2 ^ 13)) (IntKind.wrap .u64 ((zs2.getD (2 : Int).toNat 0) * 2 ^ 38)), bits2 .or .u64 (bits2 .or .u64 0 ((zs2.getD (2 : Int).toNat 0) / 2 ^ 26)) (IntKind.wrap .u64 ((zs2.getD (3 : Int).toNat 0) * 2 ^ 25)), bits2 .or .u64 (bits2 .or .u64 0 ((zs2.getD (3 : Int).toNat 0) / 2 ^ 39)) (IntKind.wrap .u64 ((zs2.getD (4 : Int).toNat 0) * 2 ^ 12))] : List Int)), blk b1 89 (nums .u64 zs2)]) (fun _ _ w hs => hs) ?_
  refine RunU.ev [2, 3, 5, 6, 13, 14] [(2, .slice none 0 0), (3, pt b5), (5, .int .u64 (zs2.getD (4 : Int).toNat 0)), (6, .int .i64 204), (13, ag .u64 zs2), (14, .int .i64 4)] ?_
  refine RunU.dn ?_
  refine kseq_n ?_
  refine RunC.sr ?_
  refine RunR.sil hU [1] 9 9 [2, 3, 5, 6, 13, 14, 38] [(2, .slice none 0 0), (3, pt b5), (5, .int .u64 (zs2.getD (4 : Int).toNat 0)), (6, .int .i64 204), (13, ag .u64 zs2), (14, .int .i64 4), (38, .bool false)] ((True) ∧ (0 ≤ (204 : Int) ∧ 0 < (64 : Int)) ∧ (True) ∧ (True) ∧ (True) ∧ True) rfl (by kernel_rfl) ⟨trivial, (by decide), trivial, trivial, trivial, trivial⟩ ?_
  refine RunR.nn ?_
  refine RunC.cond (b := false) (by kernel_rfl) (fun h => by cases h) (fun _ => ?_)
  refine RunC.skip ?_
  refine kblock_n ?_
  refine kseq_n ?_
  refine RunC.region ?_
  refine RunR.sil hU [0] 2 2 [2, 3, 13, 14] [(2, .slice none 0 0), (3, pt b5), (13, ag .u64 zs2), (14, .int .i64 5)] ((-9223372036854775808 ≤ ((4 : Int) + 1) ∧ ((4 : Int) + 1) < 9223372036854775808) ∧ (True) ∧ True) rfl (by kernel_rfl) ⟨(by decide), trivial, trivial⟩ ?_
  refine RunR.dn ?_
  refine kround_n ?_
  refine RunC.sr ?_
  refine RunR.sl hU [] 1 1 [2, 3, 13, 14, 15] [(2, .slice none 0 0), (3, pt b5), (13, ag .u64 zs2), (14, .int .i64 5), (15, .bool false)] 1 ?_
  refine RunR.nn ?_
  refine RunC.seq ?_
  refine RunC.cond (b := false) (by kernel_rfl) (fun h => by cases h) (fun _ => ?_)
  refine RunC.exit ?_
  refine kseq_e ?_
  refine kround_e ?_
  refine kblock_e ?_
  refine kseq_n ?_
  refine RunC.sr ?_
  refine RunR.sl hU [] 1 1 [2, 3, 7] [(2, .slice none 0 0), (3, pt b5), (7, .slice none 0 0)] 1 ?_
  refine RunR.nn ?_
  refine RunC.seq ?_
  refine RunC.sr ?_
  refine RunR.st (some 52) (.load 131 (.tmp 3)) (Step.load_arr hU 0 b5 131 4 .u64 ([ bits2 .or .u64 (bits2 .or .u64 0 (IntKind.wrap .u64 ((zs2.getD (0 : Int).toNat 0) * 2 ^ 0))) (IntKind.wrap .u64 ((zs2.getD (1 : Int).toNat 0) * 2 ^ 51)), bits2 .or .u64 (bits2 .or .u64 0 ((zs2.getD (1 : Int).toNat 0) / 2 ^ 13)) (IntKind.wrap .u64 ((zs2.getD (2 : Int).toNat 0) * 2 ^ 38)), bits2 .or .u64 (bits2 .or .u64 0 ((zs2.getD (2 : Int).toNat 0) / 2 ^ 26)) (IntKind.wrap .u64 ((zs2.getD (3 : Int).toNat 0) * 2 ^ 25)), bits2 .or .u64 (bits2 .or .u64 0 ((zs2.getD (3 : Int).toNat 0) / 2 ^ 39)) (IntKind.wrap .u64 ((zs2.getD (4 : Int).toNat 0) * 2 ^ 12))] : List Int) (by kernel_rfl) (by kernel_rfl) (by kernel_rfl) (by kernel_rfl) (by rfl) (by kernel_rfl) ?_)
  refine RunR.sl hU [] 1 2 [2, 7, 52, 53] [(2, .slice none 0 0), (7, .slice none 0 0), (52, .agg (nums .u64 ([ bits2 .or .u64 (bits2 .or .u64 0 (IntKind.wrap .u64 ((zs2.getD (0 : Int).toNat 0) * 2 ^ 0))) (IntKind.wrap .u64 ((zs2.getD (1 : Int).toNat 0) * 2 ^ 51)), bits2 .or .u64 (bits2 .or .u64 0 ((zs2.getD (1 : Int).toNat 0) / 2 ^ 13)) (IntKind.wrap .u64 ((zs2.getD (2 : Int).toNat 0) * 2 ^ 38)), bits2 .or .u64 (bits2 .or .u64 0 ((zs2.getD (2 : Int).toNat 0) / 2 ^ 26)) (IntKind.wrap .u64 ((zs2.getD (3 : Int).toNat 0) * 2 ^ 25)), bits2 .or .u64 (bits2 .or .u64 0 ((zs2.getD (3 : Int).toNat 0) / 2 ^ 39)) (IntKind.wrap .u64 ((zs2.getD (4 : Int).toNat 0) * 2 ^ 12))] : List Int)).toArray), (53, .int .i64 0)] 1 ?_
  refine RunR.nn ?_
  refine RunC.block ?_
  refine RunC.unroll 4 ?_
  refine RunC.sr ?_
  refine RunR.sl hU [] 1 1 [2, 7, 52, 53, 54] [(2, .slice none 0 0), (7, .slice none 0 0), (52, .agg (nums .u64 ([ bits2 .or .u64 (bits2 .or .u64 0 (IntKind.wrap .u64 ((zs2.getD (0 : Int).toNat 0) * 2 ^ 0))) (IntKind.wrap .u64 ((zs2.getD (1 : Int).toNat 0) * 2 ^ 51)), bits2 .or .u64 (bits2 .or .u64 0 ((zs2.getD (1 : Int).toNat 0) / 2 ^ 13)) (IntKind.wrap .u64 ((zs2.getD (2 : Int).toNat 0) * 2 ^ 38)), bits2 .or .u64 (bits2 .or .u64 0 ((zs2.getD (2 : Int).toNat 0) / 2 ^ 26)) (IntKind.wrap .u64 ((zs2.getD (3 : Int).toNat 0) * 2 ^ 25)), bits2 .or .u64 (bits2 .or .u64 0 ((zs2.getD (3 : Int).toNat 0) / 2 ^ 39)) (IntKind.wrap .u64 ((zs2.getD (4 : Int).toNat 0) * 2 ^ 12))] : List Int)).toArray), (53, .int .i64 0), (54, .bool true)] 1 ?_
  refine RunR.nn ?_
  refine RunC.seq ?_
  refine RunC.cond (b := true) (by kernel_rfl) (fun _ => ?_) (fun h => by cases h)
  refine RunC.ks ?_
  refine RunC.seq ?_
  refine RunC.block ?_
  refine RunC.sr ?_
  refine RunR.sil hU [] 2 2 [2, 7, 9, 52, 53] [(2, .slice none 0 0), (7, .slice none 0 0), (9, .int .u64 ( bits2 .or .u64 (bits2 .or .u64 0 (IntKind.wrap .u64 ((zs2.getD (0 : Int).toNat 0) * 2 ^ 0))) (IntKind.wrap .u64 ((zs2.getD (1 : Int).toNat 0) * 2 ^ 51)))), (52, .agg (nums .u64 ([ bits2 .or .u64 (bits2 .or .u64 0 (IntKind.wrap .u64 ((zs2.getD (0 : Int).toNat 0) * 2 ^ 0))) (IntKind.wrap .u64 ((zs2.getD (1 : Int).toNat 0) * 2 ^ 51)), bits2 .or .u64 (bits2 .or .u64 0 ((zs2.getD (1 : Int).toNat 0) / 2 ^ 13)) (IntKind.wrap .u64 ((zs2.getD (2 : Int).toNat 0) * 2 ^ 38)), bits2 .or .u64 (bits2 .or .u64 0 ((zs2.getD (2 : Int).toNat 0) / 2 ^ 26)) (IntKind.wrap .u64 ((zs2.getD (3 : Int).toNat 0) * 2 ^ 25)), bits2 .or .u64 (bits2 .or .u64 0 ((zs2.getD (3 : Int).toNat 0) / 2 ^ 39)) (IntKind.wrap .u64 ((zs2.getD (4 : Int).toNat 0) * 2 ^ 12))] : List Int)).toArray), (53, .int .i64 0)] (((0 ≤ (0 : Int) ∧ (0 : Int) < ((4 : Nat) : Int)) ∧ ((0 : Int)).toNat < ((nums .u64 ([ bits2 .or .u64 (bits2 .or .u64 0 (IntKind.wrap .u64 ((zs2.getD (0 : Int).toNat 0) * 2 ^ 0))) (IntKind.wrap .u64 ((zs2.getD (1 : Int).toNat 0) * 2 ^ 51)), bits2 .or .u64 (bits2 .or .u64 0 ((zs2.getD (1 : Int).toNat 0) / 2 ^ 13)) (IntKind.wrap .u64 ((zs2.getD (2 : Int).toNat 0) * 2 ^ 38)), bits2 .or .u64 (bits2 .or .u64 0 ((zs2.getD (2 : Int).toNat 0) / 2 ^ 26)) (IntKind.wrap .u64 ((zs2.getD (3 : Int).toNat 0) * 2 ^ 25)), bits2 .or .u64 (bits2 .or .u64 0 ((zs2.getD (3 : Int).toNat 0) / 2 ^ 39)) (IntKind.wrap .u64 ((zs2.getD (4 : Int).toNat 0) * 2 ^ 12))] : List Int)).toArray).size) ∧ (True) ∧ True) rfl (by kernel_rfl) ⟨(by (refine ⟨by decide, ?_⟩; simp only [List.size_toArray, nums_length, List.length_cons, List.length_nil]; decide)), trivial, trivial⟩ ?_
  refine RunR.nn ?_
  refine RunC.region ?_
  refine RunR.sl hU [] 2 2 [2, 7, 52, 53, 56, 57] [(2, .slice none 0 0), (7, .slice none 0 0), (52, .agg (nums .u64 ([ bits2 .or .u64 (bits2 .or .u64 0 (IntKind.wrap .u64 ((zs2.getD (0 : Int).toNat 0) * 2 ^ 0))) (IntKind.wrap .u64 ((zs2.getD (1 : Int).toNat 0) * 2 ^ 51)), bits2 .or .u64 (bits2 .or .u64 0 ((zs2.getD (1 : Int).toNat 0) / 2 ^ 13)) (IntKind.wrap .u64 ((zs2.getD (2 : Int).toNat 0) * 2 ^ 38)), bits2 .or .u64 (bits2 .or .u64 0 ((zs2.getD (2 : Int).toNat 0) / 2 ^ 26)) (IntKind.wrap .u64 ((zs2.getD (3 : Int).toNat 0) * 2 ^ 25)), bits2 .or .u64 (bits2 .or .u64 0 ((zs2.getD (3 : Int).toNat 0) / 2 ^ 39)) (IntKind.wrap .u64 ((zs2.getD (4 : Int).toNat 0) * 2 ^ 12))] : List Int)).toArray), (53, .int .i64 0), (56, .slice none 0 0), (57, .int .u64 ( bits2 .or .u64 (bits2 .or .u64 0 (IntKind.wrap .u64 ((zs2.getD (0 : Int).toNat 0) * 2 ^ 0))) (IntKind.wrap .u64 ((zs2.getD (1 : Int).toNat 0) * 2 ^ 51))))] 2 ?_
  refine RunR.st (some 58) (.call { callee := .value (.func 99), args := #[.tmp 57], argTypes := #[86] }) (Step.cn 99 [.int .u64 ( bits2 .or .u64 (bits2 .or .u64 0 (IntKind.wrap .u64 ((zs2.getD (0 : Int).toNat 0) * 2 ^ 0))) (IntKind.wrap .u64 ((zs2.getD (1 : Int).toNat 0) * 2 ^ 51)))] [] [blk b5 131 (nums .u64 ([ bits2 .or .u64 (bits2 .or .u64 0 (IntKind.wrap .u64 ((zs2.getD (0 : Int).toNat 0) * 2 ^ 0))) (IntKind.wrap .u64 ((zs2.getD (1 : Int).toNat 0) * 2 ^ 51)), bits2 .or .u64 (bits2 .or .u64 0 ((zs2.getD (1 : Int).toNat 0) / 2 ^ 13)) (IntKind.wrap .u64 ((zs2.getD (2 : Int).toNat 0) * 2 ^ 38)), bits2 .or .u64 (bits2 .or .u64 0 ((zs2.getD (2 : Int).toNat 0) / 2 ^ 26)) (IntKind.wrap .u64 ((zs2.getD (3 : Int).toNat 0) * 2 ^ 25)), bits2 .or .u64 (bits2 .or .u64 0 ((zs2.getD (3 : Int).toNat 0) / 2 ^ 39)) (IntKind.wrap .u64 ((zs2.getD (4 : Int).toNat 0) * 2 ^ 12))] : List Int)), blk b1 89 (nums .u64 zs2)] (w_Put64_spec (bits2 .or .u64 (bits2 .or .u64 0 (IntKind.wrap .u64 ((zs2.getD (0 : Int).toNat 0) * 2 ^ 0))) (IntKind.wrap .u64 ((zs2.getD (1 : Int).toNat 0) * 2 ^ 51))) (by exact fits_wrap _ _)) [] ?_)
  rintro _ _ ⟨Aq6, cq7, zs8, rfl, rfl, hp9, hp10, hp11, hp12, hp13⟩
  refine RunR.turn ([row 5 1 (.slice none 0 0) 0 (nums .u8 ([] : List Int)), row 5 1 (.slice Aq6 zs8.length cq7) zs8.length (nums .u8 zs8), blk b5 131 (nums .u64 ([ bits2 .or .u64 (bits2 .or .u64 0 (IntKind.wrap .u64 ((zs2.getD (0 : Int).toNat 0) * 2 ^ 0))) (IntKind.wrap .u64 ((zs2.getD (1 : Int).toNat 0) * 2 ^ 51)), bits2 .or .u64 (bits2 .or .u64 0 ((zs2.getD (1 : Int).toNat 0) / 2 ^ 13)) (IntKind.wrap .u64 ((zs2.getD (2 : Int).toNat 0) * 2 ^ 38)), bits2 .or .u64 (bits2 .or .u64 0 ((zs2.getD (2 : Int).toNat 0) / 2 ^ 26)) (IntKind.wrap .u64 ((zs2.getD (3 : Int).toNat 0) * 2 ^ 25)), bits2 .or .u64 (bits2 .or .u64 0 ((zs2.getD (3 : Int).toNat 0) / 2 ^ 39)) (IntKind.wrap .u64 ((zs2.getD (4 : Int).toNat 0) * 2 ^ 12))] : List Int)), blk b1 89 (nums .u64 zs2)]) (fun _ _ w hs => hs.nil_row 5 1) ?_
  have hl18 : (([] : List Int)).length = 0 := rfl
  refine RunR.st (some 59) (.call { callee := .builtin .append, args := #[.tmp 56, .tmp 58], argTypes := #[23, 23] }) (Step.append_nums hU 5 1 (.int .u8 0) .u8 0 1 none 0 0 ([] : List Int) Aq6 zs8.length cq7 (row 5 1 (.slice Aq6 zs8.length cq7) zs8.length (nums .u8 zs8)) zs8 rfl rfl rfl (by kernel_rfl) (by kernel_rfl) (by kernel_rfl) (by kernel_rfl) (tells_row _ _ _ _ _ _) (by rfl) (by rfl) (by omega) (by omega) (by kernel_rfl) (fun Aq14 cq15 hc16 hA17 => ?_))
  simp only [List.nil_append] at hc16 hA17
  refine RunR.sl hU [] 1 5 [2, 7, 52, 53] [(2, .slice none 0 0), (7, .slice Aq14 zs8.length cq15), (52, .agg (nums .u64 ([ bits2 .or .u64 (bits2 .or .u64 0 (IntKind.wrap .u64 ((zs2.getD (0 : Int).toNat 0) * 2 ^ 0))) (IntKind.wrap .u64 ((zs2.getD (1 : Int).toNat 0) * 2 ^ 51)), bits2 .or .u64 (bits2 .or .u64 0 ((zs2.getD (1 : Int).toNat 0) / 2 ^ 13)) (IntKind.wrap .u64 ((zs2.getD (2 : Int).toNat 0) * 2 ^ 38)), bits2 .or .u64 (bits2 .or .u64 0 ((zs2.getD (2 : Int).toNat 0) / 2 ^ 26)) (IntKind.wrap .u64 ((zs2.getD (3 : Int).toNat 0) * 2 ^ 25)), bits2 .or .u64 (bits2 .or .u64 0 ((zs2.getD (3 : Int).toNat 0) / 2 ^ 39)) (IntKind.wrap .u64 ((zs2.getD (4 : Int).toNat 0) * 2 ^ 12))] : List Int)).toArray), (53, .int .i64 0)] 1 ?_
  refine RunR.dn ?_
  refine kblock_n ?_
  refine kseq_n ?_
  refine RunC.region ?_
  refine RunR.sil hU [0] 2 2 [2, 7, 52, 53] [(2, .slice none 0 0), (7, .slice Aq14 zs8.length cq15), (52, .agg (nums .u64 ([ bits2 .or .u64 (bits2 .or .u64 0 (IntKind.wrap .u64 ((zs2.getD (0 : Int).toNat 0) * 2 ^ 0))) (IntKind.wrap .u64 ((zs2.getD (1 : Int).toNat 0) * 2 ^ 51)), bits2 .or .u64 (bits2 .or .u64 0 ((zs2.getD (1 : Int).toNat 0) / 2 ^ 13)) (IntKind.wrap .u64 ((zs2.getD (2 : Int).toNat 0) * 2 ^ 38)), bits2 .or .u64 (bits2 .or .u64 0 ((zs2.getD (2 : Int).toNat 0) / 2 ^ 26)) (IntKind.wrap .u64 ((zs2.getD (3 : Int).toNat 0) * 2 ^ 25)), bits2 .or .u64 (bits2 .or .u64 0 ((zs2.getD (3 : Int).toNat 0) / 2 ^ 39)) (IntKind.wrap .u64 ((zs2.getD (4 : Int).toNat 0) * 2 ^ 12))] : List Int)).toArray), (53, .int .i64 1)] ((-9223372036854775808 ≤ ((0 : Int) + 1) ∧ ((0 : Int) + 1) < 9223372036854775808) ∧ (True) ∧ True) rfl (by kernel_rfl) ⟨(by decide), trivial, trivial⟩ ?_
  refine RunR.dn ?_
  refine kround_n ?_
  refine RunC.sr ?_
  refine RunR.sl hU [] 1 1 [2, 7, 52, 53, 54] [(2, .slice none 0 0), (7, .slice Aq14 zs8.length cq15), (52, .agg (nums .u64 ([ bits2 .or .u64 (bits2 .or .u64 0 (IntKind.wrap .u64 ((zs2.getD (0 : Int).toNat 0) * 2 ^ 0))) (IntKind.wrap .u64 ((zs2.getD (1 : Int).toNat 0) * 2 ^ 51)), bits2 .or .u64 (bits2 .or .u64 0 ((zs2.getD (1 : Int).toNat 0) / 2 ^ 13)) (IntKind.wrap .u64 ((zs2.getD (2 : Int).toNat 0) * 2 ^ 38)), bits2 .or .u64 (bits2 .or .u64 0 ((zs2.getD (2 : Int).toNat 0) / 2 ^ 26)) (IntKind.wrap .u64 ((zs2.getD (3 : Int).toNat 0) * 2 ^ 25)), bits2 .or .u64 (bits2 .or .u64 0 ((zs2.getD (3 : Int).toNat 0) / 2 ^ 39)) (IntKind.wrap .u64 ((zs2.getD (4 : Int).toNat 0) * 2 ^ 12))] : List Int)).toArray), (53, .int .i64 1), (54, .bool true)] 1 ?_
  refine RunR.nn ?_
  refine RunC.seq ?_
  refine RunC.cond (b := true) (by kernel_rfl) (fun _ => ?_) (fun h => by cases h)
  refine RunC.ks ?_
  refine RunC.seq ?_
  refine RunC.block ?_
  refine RunC.sr ?_
  refine RunR.sil hU [] 2 2 [2, 7, 9, 52, 53] [(2, .slice none 0 0), (7, .slice Aq14 zs8.length cq15), (9, .int .u64 ( bits2 .or .u64 (bits2 .or .u64 0 ((zs2.getD (1 : Int).toNat 0) / 2 ^ 13)) (IntKind.wrap .u64 ((zs2.getD (2 : Int).toNat 0) * 2 ^ 38)))), (52, .agg (nums .u64 ([ bits2 .or .u64 (bits2 .or .u64 0 (IntKind.wrap .u64 ((zs2.getD (0 : Int).toNat 0) * 2 ^ 0))) (IntKind.wrap .u64 ((zs2.getD (1 : Int).toNat 0) * 2 ^ 51)), bits2 .or .u64 (bits2 .or .u64 0 ((zs2.getD (1 : Int).toNat 0) / 2 ^ 13)) (IntKind.wrap .u64 ((zs2.getD (2 : Int).toNat 0) * 2 ^ 38)), bits2 .or .u64 (bits2 .or .u64 0 ((zs2.getD (2 : Int).toNat 0) / 2 ^ 26)) (IntKind.wrap .u64 ((zs2.getD (3 : Int).toNat 0) * 2 ^ 25)), bits2 .or .u64 (bits2 .or .u64 0 ((zs2.getD (3 : Int).toNat 0) / 2 ^ 39)) (IntKind.wrap .u64 ((zs2.getD (4 : Int).toNat 0) * 2 ^ 12))] : List Int)).toArray), (53, .int .i64 1)] (((0 ≤ (1 : Int) ∧ (1 : Int) < ((4 : Nat) : Int)) ∧ ((1 : Int)).toNat < ((nums .u64 ([ bits2 .or .u64 (bits2 .or .u64 0 (IntKind.wrap .u64 ((zs2.getD (0 : Int).toNat 0) * 2 ^ 0))) (IntKind.wrap .u64 ((zs2.getD (1 : Int).toNat 0) * 2 ^ 51)), bits2 .or .u64 (bits2 .or .u64 0 ((zs2.getD (1 : Int).toNat 0) / 2 ^ 13)) (IntKind.wrap .u64 ((zs2.getD (2 : Int).toNat 0) * 2 ^ 38)), bits2 .or .u64 (bits2 .or .u64 0 ((zs2.getD (2 : Int).toNat 0) / 2 ^ 26)) (IntKind.wrap .u64 ((zs2.getD (3 : Int).toNat 0) * 2 ^ 25)), bits2 .or .u64 (bits2 .or .u64 0 ((zs2.getD (3 : Int).toNat 0) / 2 ^ 39)) (IntKind.wrap .u64 ((zs2.getD (4 : Int).toNat 0) * 2 ^ 12))] : List Int)).toArray).size) ∧ (True) ∧ True) rfl (by kernel_rfl) ⟨(by (refine ⟨by decide, ?_⟩; simp only [List.size_toArray, nums_length, List.length_cons, List.length_nil]; decide)), trivial, trivial⟩ ?_
  refine RunR.nn ?_
  refine RunC.region ?_
  refine RunR.sl hU [] 2 2 [2, 7, 52, 53, 56, 57] [(2, .slice none 0 0), (7, .slice Aq14 zs8.length cq15), (52, .agg (nums .u64 ([ bits2 .or .u64 (bits2 .or .u64 0 (IntKind.wrap .u64 ((zs2.getD (0 : Int).toNat 0) * 2 ^ 0))) (IntKind.wrap .u64 ((zs2.getD (1 : Int).toNat 0) * 2 ^ 51)), bits2 .or .u64 (bits2 .or .u64 0 ((zs2.getD (1 : Int).toNat 0) / 2 ^ 13)) (IntKind.wrap .u64 ((zs2.getD (2 : Int).toNat 0) * 2 ^ 38)), bits2 .or .u64 (bits2 .or .u64 0 ((zs2.getD (2 : Int).toNat 0) / 2 ^ 26)) (IntKind.wrap .u64 ((zs2.getD (3 : Int).toNat 0) * 2 ^ 25)), bits2 .or .u64 (bits2 .or .u64 0 ((zs2.getD (3 : Int).toNat 0) / 2 ^ 39)) (IntKind.wrap .u64 ((zs2.getD (4 : Int).toNat 0) * 2 ^ 12))] : List Int)).toArray), (53, .int .i64 1), (56, .slice Aq14 zs8.length cq15), (57, .int .u64 ( bits2 .or .u64 (bits2 .or .u64 0 ((zs2.getD (1 : Int).toNat 0) / 2 ^ 13)) (IntKind.wrap .u64 ((zs2.getD (2 : Int).toNat 0) * 2 ^ 38))))] 2 ?_
  refine RunR.st (some 58) (.call { callee := .value (.func 99), args := #[.tmp 57], argTypes := #[86] }) (Step.cn 99 [.int .u64 ( bits2 .or .u64 (bits2 .or .u64 0 ((zs2.getD (1 : Int).toNat 0) / 2 ^ 13)) (IntKind.wrap .u64 ((zs2.getD (2 : Int).toNat 0) * 2 ^ 38)))] [] [row 5 1 (.slice Aq14 zs8.length cq15) zs8.length (nums .u8 zs8), row 5 1 (.slice Aq6 zs8.length cq7) zs8.length (nums .u8 zs8), blk b5 131 (nums .u64 ([ bits2 .or .u64 (bits2 .or .u64 0 (IntKind.wrap .u64 ((zs2.getD (0 : Int).toNat 0) * 2 ^ 0))) (IntKind.wrap .u64 ((zs2.getD (1 : Int).toNat 0) * 2 ^ 51)), bits2 .or .u64 (bits2 .or .u64 0 ((zs2.getD (1 : Int).toNat 0) / 2 ^ 13)) (IntKind.wrap .u64 ((zs2.getD (2 : Int).toNat 0) * 2 ^ 38)), bits2 .or .u64 (bits2 .or .u64 0 ((zs2.getD (2 : Int).toNat 0) / 2 ^ 26)) (IntKind.wrap .u64 ((zs2.getD (3 : Int).toNat 0) * 2 ^ 25)), bits2 .or .u64 (bits2 .or .u64 0 ((zs2.getD (3 : Int).toNat 0) / 2 ^ 39)) (IntKind.wrap .u64 ((zs2.getD (4 : Int).toNat 0) * 2 ^ 12))] : List Int)), blk b1 89 (nums .u64 zs2)] (w_Put64_spec (bits2 .or .u64 (bits2 .or .u64 0 ((zs2.getD (1 : Int).toNat 0) / 2 ^ 13)) (IntKind.wrap .u64 ((zs2.getD (2 : Int).toNat 0) * 2 ^ 38))) (by exact fits_wrap _ _)) [] ?_)
  rintro _ _ ⟨Aq19, cq20, zs21, rfl, rfl, hp22, hp23, hp24, hp25, hp26⟩
  refine RunR.st (some 59) (.call { callee := .builtin .append, args := #[.tmp 56, .tmp 58], argTypes := #[23, 23] }) (Step.append_nums hU 5 1 (.int .u8 0) .u8 1 0 Aq14 zs8.length cq15 zs8 Aq19 zs21.length cq20 (row 5 1 (.slice Aq19 zs21.length cq20) zs21.length (nums .u8 zs21)) zs21 rfl rfl rfl (by kernel_rfl) (by kernel_rfl) (by kernel_rfl) (by kernel_rfl) (tells_row _ _ _ _ _ _) (by rfl) (by rfl) (by omega) (by omega) (by kernel_rfl) (fun Aq27 cq28 hc29 hA30 => ?_))
  have hl31 : (zs8 ++ zs21).length = zs8.length + zs21.length := List.length_append
  refine RunR.sl hU [] 1 5 [2, 7, 52, 53] [(2, .slice none 0 0), (7, .slice Aq27 ((zs8 ++ zs21).length) cq28), (52, .agg (nums .u64 ([ bits2 .or .u64 (bits2 .or .u64 0 (IntKind.wrap .u64 ((zs2.getD (0 : Int).toNat 0) * 2 ^ 0))) (IntKind.wrap .u64 ((zs2.getD (1 : Int).toNat 0) * 2 ^ 51)), bits2 .or .u64 (bits2 .or .u64 0 ((zs2.getD (1 : Int).toNat 0) / 2 ^ 13)) (IntKind.wrap .u64 ((zs2.getD (2 : Int).toNat 0) * 2 ^ 38)), bits2 .or .u64 (bits2 .or .u64 0 ((zs2.getD (2 : Int).toNat 0) / 2 ^ 26)) (IntKind.wrap .u64 ((zs2.getD (3 : Int).toNat 0) * 2 ^ 25)), bits2 .or .u64 (bits2 .or .u64 0 ((zs2.getD (3 : Int).toNat 0) / 2 ^ 39)) (IntKind.wrap .u64 ((zs2.getD (4 : Int).toNat 0) * 2 ^ 12))] : List Int)).toArray), (53, .int .i64 1)] 1 ?_
  refine RunR.dn ?_
  refine kblock_n ?_
  refine kseq_n ?_
  refine RunC.region ?_
  refine RunR.sil hU [0] 2 2 [2, 7, 52, 53] [(2, .slice none 0 0), (7, .slice Aq27 ((zs8 ++ zs21).length) cq28), (52, .agg (nums .u64 ([ bits2 .or .u64 (bits2 .or .u64 0 (IntKind.wrap .u64 ((zs2.getD (0 : Int).toNat 0) * 2 ^ 0))) (IntKind.wrap .u64 ((zs2.getD (1 : Int).toNat 0) * 2 ^ 51)), bits2 .or .u64 (bits2 .or .u64 0 ((zs2.getD (1 : Int).toNat 0) / 2 ^ 13)) (IntKind.wrap .u64 ((zs2.getD (2 : Int).toNat 0) * 2 ^ 38)), bits2 .or .u64 (bits2 .or .u64 0 ((zs2.getD (2 : Int).toNat 0) / 2 ^ 26)) (IntKind.wrap .u64 ((zs2.getD (3 : Int).toNat 0) * 2 ^ 25)), bits2 .or .u64 (bits2 .or .u64 0 ((zs2.getD (3 : Int).toNat 0) / 2 ^ 39)) (IntKind.wrap .u64 ((zs2.getD (4 : Int).toNat 0) * 2 ^ 12))] : List Int)).toArray), (53, .int .i64 2)] ((-9223372036854775808 ≤ ((1 : Int) + 1) ∧ ((1 : Int) + 1) < 9223372036854775808) ∧ (True) ∧ True) rfl (by kernel_rfl) ⟨(by decide), trivial, trivial⟩ ?_
  refine RunR.dn ?_
  refine kround_n ?_
  refine RunC.sr ?_
  refine RunR.sl hU [] 1 1 [2, 7, 52, 53, 54] [(2, .slice none 0 0), (7, .slice Aq27 ((zs8 ++ zs21).length) cq28), (52, .agg (nums .u64 ([ bits2 .or .u64 (bits2 .or .u64 0 (IntKind.wrap .u64 ((zs2.getD (0 : Int).toNat 0) * 2 ^ 0))) (IntKind.wrap .u64 ((zs2.getD (1 : Int).toNat 0) * 2 ^ 51)), bits2 .or .u64 (bits2 .or .u64 0 ((zs2.getD (1 : Int).toNat 0) / 2 ^ 13)) (IntKind.wrap .u64 ((zs2.getD (2 : Int).toNat 0) * 2 ^ 38)), bits2 .or .u64 (bits2 .or .u64 0 ((zs2.getD (2 : Int).toNat 0) / 2 ^ 26)) (IntKind.wrap .u64 ((zs2.getD (3 : Int).toNat 0) * 2 ^ 25)), bits2 .or .u64 (bits2 .or .u64 0 ((zs2.getD (3 : Int).toNat 0) / 2 ^ 39)) (IntKind.wrap .u64 ((zs2.getD (4 : Int).toNat 0) * 2 ^ 12))] : List Int)).toArray), (53, .int .i64 2), (54, .bool true)] 1 ?_
  refine RunR.nn ?_
  refine RunC.seq ?_
  refine RunC.cond (b := true) (by kernel_rfl) (fun _ => ?_) (fun h => by cases h)
  refine RunC.ks ?_
  refine RunC.seq ?_
  refine RunC.block ?_
  refine RunC.sr ?_
  refine RunR.sil hU [] 2 2 [2, 7, 9, 52, 53] [(2, .slice none 0 0), (7, .slice Aq27 ((zs8 ++ zs21).length) cq28), (9, .int .u64 ( bits2 .or .u64 (bits2 .or .u64 0 ((zs2.getD (2 : Int).toNat 0) / 2 ^ 26)) (IntKind.wrap .u64 ((zs2.getD (3 : Int).toNat 0) * 2 ^ 25)))), (52, .agg (nums .u64 ([ bits2 .or .u64 (bits2 .or .u64 0 (IntKind.wrap .u64 ((zs2.getD (0 : Int).toNat 0) * 2 ^ 0))) (IntKind.wrap .u64 ((zs2.getD (1 : Int).toNat 0) * 2 ^ 51)), bits2 .or .u64 (bits2 .or .u64 0 ((zs2.getD (1 : Int).toNat 0) / 2 ^ 13)) (IntKind.wrap .u64 ((zs2.getD (2 : Int).toNat 0) * 2 ^ 38)), bits2 .or .u64 (bits2 .or .u64 0 ((zs2.getD (2 : Int).toNat 0) / 2 ^ 26)) (IntKind.wrap .u64 ((zs2.getD (3 : Int).toNat 0) * 2 ^ 25)), bits2 .or .u64 (bits2 .or .u64 0 ((zs2.getD (3 : Int).toNat 0) / 2 ^ 39)) (IntKind.wrap .u64 ((zs2.getD (4 : Int).toNat 0) * 2 ^ 12))] : List Int)).toArray), (53, .int .i64 2)] (((0 ≤ (2 : Int) ∧ (2 : Int) < ((4 : Nat) : Int)) ∧ ((2 : Int)).toNat < ((nums .u64 ([ bits2 .or .u64 (bits2 .or .u64 0 (IntKind.wrap .u64 ((zs2.getD (0 : Int).toNat 0) * 2 ^ 0))) (IntKind.wrap .u64 ((zs2.getD (1 : Int).toNat 0) * 2 ^ 51)), bits2 .or .u64 (bits2 .or .u64 0 ((zs2.getD (1 : Int).toNat 0) / 2 ^ 13)) (IntKind.wrap .u64 ((zs2.getD (2 : Int).toNat 0) * 2 ^ 38)), bits2 .or .u64 (bits2 .or .u64 0 ((zs2.getD (2 : Int).toNat 0) / 2 ^ 26)) (IntKind.wrap .u64 ((zs2.getD (3 : Int).toNat 0) * 2 ^ 25)), bits2 .or .u64 (bits2 .or .u64 0 ((zs2.getD (3 : Int).toNat 0) / 2 ^ 39)) (IntKind.wrap .u64 ((zs2.getD (4 : Int).toNat 0) * 2 ^ 12))] : List Int)).toArray).size) ∧ (True) ∧ True) rfl (by kernel_rfl) ⟨(by (refine ⟨by decide, ?_⟩; simp only [List.size_toArray, nums_length, List.length_cons, List.length_nil]; decide)), trivial, trivial⟩ ?_
  refine RunR.nn ?_
  refine RunC.region ?_
  refine RunR.sl hU [] 2 2 [2, 7, 52, 53, 56, 57] [(2, .slice none 0 0), (7, .slice Aq27 ((zs8 ++ zs21).length) cq28), (52, .agg (nums .u64 ([ bits2 .or .u64 (bits2 .or .u64 0 (IntKind.wrap .u64 ((zs2.getD (0 : Int).toNat 0) * 2 ^ 0))) (IntKind.wrap .u64 ((zs2.getD (1 : Int).toNat 0) * 2 ^ 51)), bits2 .or .u64 (bits2 .or .u64 0 ((zs2.getD (1 : Int).toNat 0) / 2 ^ 13)) (IntKind.wrap .u64 ((zs2.getD (2 : Int).toNat 0) * 2 ^ 38)), bits2 .or .u64 (bits2 .or .u64 0 ((zs2.getD (2 : Int).toNat 0) / 2 ^ 26)) (IntKind.wrap .u64 ((zs2.getD (3 : Int).toNat 0) * 2 ^ 25)), bits2 .or .u64 (bits2 .or .u64 0 ((zs2.getD (3 : Int).toNat 0) / 2 ^ 39)) (IntKind.wrap .u64 ((zs2.getD (4 : Int).toNat 0) * 2 ^ 12))] : List Int)).toArray), (53, .int .i64 2), (56, .slice Aq27 ((zs8 ++ zs21).length) cq28), (57, .int .u64 ( bits2 .or .u64 (bits2 .or .u64 0 ((zs2.getD (2 : Int).toNat 0) / 2 ^ 26)) (IntKind.wrap .u64 ((zs2.getD (3 : Int).toNat 0) * 2 ^ 25))))] 2 ?_
  refine RunR.st (some 58) (.call { callee := .value (.func 99), args := #[.tmp 57], argTypes := #[86] }) (Step.cn 99 [.int .u64 ( bits2 .or .u64 (bits2 .or .u64 0 ((zs2.getD (2 : Int).toNat 0) / 2 ^ 26)) (IntKind.wrap .u64 ((zs2.getD (3 : Int).toNat 0) * 2 ^ 25)))] [] [row 5 1 (.slice Aq27 ((zs8 ++ zs21).length) cq28) ((zs8 ++ zs21).length) (nums .u8 (zs8 ++ zs21)), row 5 1 (.slice Aq19 zs21.length cq20) zs21.length (nums .u8 zs21), row 5 1 (.slice Aq6 zs8.length cq7) zs8.length (nums .u8 zs8), blk b5 131 (nums .u64 ([ bits2 .or .u64 (bits2 .or .u64 0 (IntKind.wrap .u64 ((zs2.getD (0 : Int).toNat 0) * 2 ^ 0))) (IntKind.wrap .u64 ((zs2.getD (1 : Int).toNat 0) * 2 ^ 51)), bits2 .or .u64 (bits2 .or .u64 0 ((zs2.getD (1 : Int).toNat 0) / 2 ^ 13)) (IntKind.wrap .u64 ((zs2.getD (2 : Int).toNat 0) * 2 ^ 38)), bits2 .or .u64 (bits2 .or .u64 0 ((zs2.getD (2 : Int).toNat 0) / 2 ^ 26)) (IntKind.wrap .u64 ((zs2.getD (3 : Int).toNat 0) * 2 ^ 25)), bits2 .or .u64 (bits2 .or .u64 0 ((zs2.getD (3 : Int).toNat 0) / 2 ^ 39)) (IntKind.wrap .u64 ((zs2.getD (4 : Int).toNat 0) * 2 ^ 12))] : List Int)), blk b1 89 (nums .u64 zs2)] (w_Put64_spec (bits2 .or .u64 (bits2 .or .u64 0 ((zs2.getD (2 : Int).toNat 0) / 2 ^ 26)) (IntKind.wrap .u64 ((zs2.getD (3 : Int).toNat 0) * 2 ^ 25))) (by exact fits_wrap _ _)) [] ?_)
  rintro _ _ ⟨Aq32, cq33, zs34, rfl, rfl, hp35, hp36, hp37, hp38, hp39⟩
  refine RunR.st (some 59) (.call { callee := .builtin .append, args := #[.tmp 56, .tmp 58], argTypes := #[23, 23] }) (Step.append_nums hU 5 1 (.int .u8 0) .u8 1 0 Aq27 ((zs8 ++ zs21).length) cq28 (zs8 ++ zs21) Aq32 zs34.length cq33 (row 5 1 (.slice Aq32 zs34.length cq33) zs34.length (nums .u8 zs34)) zs34 rfl rfl rfl (by kernel_rfl) (by kernel_rfl) (by kernel_rfl) (by kernel_rfl) (tells_row _ _ _ _ _ _) (by rfl) (by rfl) (by omega) (by omega) (by kernel_rfl) (fun Aq40 cq41 hc42 hA43 => ?_))
  have hl44 : ((zs8 ++ zs21) ++ zs34).length = (zs8 ++ zs21).length + zs34.length := List.length_append
  refine RunR.sl hU [] 1 5 [2, 7, 52, 53] [(2, .slice none 0 0), (7, .slice Aq40 (((zs8 ++ zs21) ++ zs34).length) cq41), (52, .agg (nums .u64 ([ bits2 .or .u64 (bits2 .or .u64 0 (IntKind.wrap .u64 ((zs2.getD (0 : Int).toNat 0) * 2 ^ 0))) (IntKind.wrap .u64 ((zs2.getD (1 : Int).toNat 0) * 2 ^ 51)), bits2 .or .u64 (bits2 .or .u64 0 ((zs2.getD (1 : Int).toNat 0) / 2 ^ 13)) (IntKind.wrap .u64 ((zs2.getD (2 : Int).toNat 0) * 2 ^ 38)), bits2 .or .u64 (bits2 .or .u64 0 ((zs2.getD (2 : Int).toNat 0) / 2 ^ 26)) (IntKind.wrap .u64 ((zs2.getD (3 : Int).toNat 0) * 2 ^ 25)), bits2 .or .u64 (bits2 .or .u64 0 ((zs2.getD (3 : Int).toNat 0) / 2 ^ 39)) (IntKind.wrap .u64 ((zs2.getD (4 : Int).toNat 0) * 2 ^ 12))] : List Int)).toArray), (53, .int .i64 2)] 1 ?_
  refine RunR.dn ?_
  refine kblock_n ?_
  refine kseq_n ?_
  refine RunC.region ?_
  refine RunR.sil hU [0] 2 2 [2, 7, 52, 53] [(2, .slice none 0 0), (7, .slice Aq40 (((zs8 ++ zs21) ++ zs34).length) cq41), (52, .agg (nums .u64 ([ bits2 .or .u64 (bits2 .or .u64 0 (IntKind.wrap .u64 ((zs2.getD (0 : Int).toNat 0) * 2 ^ 0))) (IntKind.wrap .u64 ((zs2.getD (1 : Int).toNat 0) * 2 ^ 51)), bits2 .or .u64 (bits2 .or .u64 0 ((zs2.getD (1 : Int).toNat 0) / 2 ^ 13)) (IntKind.wrap .u64 ((zs2.getD (2 : Int).toNat 0) * 2 ^ 38)), bits2 .or .u64 (bits2 .or .u64 0 ((zs2.getD (2 : Int).toNat 0) / 2 ^ 26)) (IntKind.wrap .u64 ((zs2.getD (3 : Int).toNat 0) * 2 ^ 25)), bits2 .or .u64 (bits2 .or .u64 0 ((zs2.getD (3 : Int).toNat 0) / 2 ^ 39)) (IntKind.wrap .u64 ((zs2.getD (4 : Int).toNat 0) * 2 ^ 12))] : List Int)).toArray), (53, .int .i64 3)] ((-9223372036854775808 ≤ ((2 : Int) + 1) ∧ ((2 : Int) + 1) < 9223372036854775808) ∧ (True) ∧ True) rfl (by kernel_rfl) ⟨(by decide), trivial, trivial⟩ ?_
  refine RunR.dn ?_
  refine kround_n ?_
  refine RunC.sr ?_
  refine RunR.sl hU [] 1 1 [2, 7, 52, 53, 54] [(2, .slice none 0 0), (7, .slice Aq40 (((zs8 ++ zs21) ++ zs34).length) cq41), (52, .agg (nums .u64 ([ bits2 .or .u64 (bits2 .or .u64 0 (IntKind.wrap .u64 ((zs2.getD (0 : Int).toNat 0) * 2 ^ 0))) (IntKind.wrap .u64 ((zs2.getD (1 : Int).toNat 0) * 2 ^ 51)), bits2 .or .u64 (bits2 .or .u64 0 ((zs2.getD (1 : Int).toNat 0) / 2 ^ 13)) (IntKind.wrap .u64 ((zs2.getD (2 : Int).toNat 0) * 2 ^ 38)), bits2 .or .u64 (bits2 .or .u64 0 ((zs2.getD (2 : Int).toNat 0) / 2 ^ 26)) (IntKind.wrap .u64 ((zs2.getD (3 : Int).toNat 0) * 2 ^ 25)), bits2 .or .u64 (bits2 .or .u64 0 ((zs2.getD (3 : Int).toNat 0) / 2 ^ 39)) (IntKind.wrap .u64 ((zs2.getD (4 : Int).toNat 0) * 2 ^ 12))] : List Int)).toArray), (53, .int .i64 3), (54, .bool true)] 1 ?_
  refine RunR.nn ?_
  refine RunC.seq ?_
  refine RunC.cond (b := true) (by kernel_rfl) (fun _ => ?_) (fun h => by cases h)
  refine RunC.ks ?_
  refine RunC.seq ?_
  refine RunC.block ?_
  refine RunC.sr ?_
  refine RunR.sil hU [] 2 2 [2, 7, 9, 52, 53] [(2, .slice none 0 0), (7, .slice Aq40 (((zs8 ++ zs21) ++ zs34).length) cq41), (9, .int .u64 ( bits2 .or .u64 (bits2 .or .u64 0 ((zs2.getD (3 : Int).toNat 0) / 2 ^ 39)) (IntKind.wrap .u64 ((zs2.getD (4 : Int).toNat 0) * 2 ^ 12)))), (52, .agg (nums .u64 ([ bits2 .or .u64 (bits2 .or .u64 0 (IntKind.wrap .u64 ((zs2.getD (0 : Int).toNat 0) * 2 ^ 0))) (IntKind.wrap .u64 ((zs2.getD (1 : Int).toNat 0) * 2 ^ 51)), bits2 .or .u64 (bits2 .or .u64 0 ((zs2.getD (1 : Int).toNat 0) / 2 ^ 13)) (IntKind.wrap .u64 ((zs2.getD (2 : Int).toNat 0) * 2 ^ 38)), bits2 .or .u64 (bits2 .or .u64 0 ((zs2.getD (2 : Int).toNat 0) / 2 ^ 26)) (IntKind.wrap .u64 ((zs2.getD (3 : Int).toNat 0) * 2 ^ 25)), bits2 .or .u64 (bits2 .or .u64 0 ((zs2.getD (3 : Int).toNat 0) / 2 ^ 39)) (IntKind.wrap .u64 ((zs2.getD (4 : Int).toNat 0) * 2 ^ 12))] : List Int)).toArray), (53, .int .i64 3)] (((0 ≤ (3 : Int) ∧ (3 : Int) < ((4 : Nat) : Int)) ∧ ((3 : Int)).toNat < ((nums .u64 ([ bits2 .or .u64 (bits2 .or .u64 0 (IntKind.wrap .u64 ((zs2.getD (0 : Int).toNat 0) * 2 ^ 0))) (IntKind.wrap .u64 ((zs2.getD (1 : Int).toNat 0) * 2 ^ 51)), bits2 .or .u64 (bits2 .or .u64 0 ((zs2.getD (1 : Int).toNat 0) / 2 ^ 13)) (IntKind.wrap .u64 ((zs2.getD (2 : Int).toNat 0) * 2 ^ 38)), bits2 .or .u64 (bits2 .or .u64 0 ((zs2.getD (2 : Int).toNat 0) / 2 ^ 26)) (IntKind.wrap .u64 ((zs2.getD (3 : Int).toNat 0) * 2 ^ 25)), bits2 .or .u64 (bits2 .or .u64 0 ((zs2.getD (3 : Int).toNat 0) / 2 ^ 39)) (IntKind.wrap .u64 ((zs2.getD (4 : Int).toNat 0) * 2 ^ 12))] : List Int)).toArray).size) ∧ (True) ∧ True) rfl (by kernel_rfl) ⟨(by (refine ⟨by decide, ?_⟩; simp only [List.size_toArray, nums_length, List.length_cons, List.length_nil]; decide)), trivial, trivial⟩ ?_
  refine RunR.nn ?_
  refine RunC.region ?_
  refine RunR.sl hU [] 2 2 [2, 7, 52, 53, 56, 57] [(2, .slice none 0 0), (7, .slice Aq40 (((zs8 ++ zs21) ++ zs34).length) cq41), (52, .agg (nums .u64 ([ bits2 .or .u64 (bits2 .or .u64 0 (IntKind.wrap .u64 ((zs2.getD (0 : Int).toNat 0) * 2 ^ 0))) (IntKind.wrap .u64 ((zs2.getD (1 : Int).toNat 0) * 2 ^ 51)), bits2 .or .u64 (bits2 .or .u64 0 ((zs2.getD (1 : Int).toNat 0) / 2 ^ 13)) (IntKind.wrap .u64 ((zs2.getD (2 : Int).toNat 0) * 2 ^ 38)), bits2 .or .u64 (bits2 .or .u64 0 ((zs2.getD (2 : Int).toNat 0) / 2 ^ 26)) (IntKind.wrap .u64 ((zs2.getD (3 : Int).toNat 0) * 2 ^ 25)), bits2 .or .u64 (bits2 .or .u64 0 ((zs2.getD (3 : Int).toNat 0) / 2 ^ 39)) (IntKind.wrap .u64 ((zs2.getD (4 : Int).toNat 0) * 2 ^ 12))] : List Int)).toArray), (53, .int .i64 3), (56, .slice Aq40 (((zs8 ++ zs21) ++ zs34).length) cq41), (57, .int .u64 ( bits2 .or .u64 (bits2 .or .u64 0 ((zs2.getD (3 : Int).toNat 0) / 2 ^ 39)) (IntKind.wrap .u64 ((zs2.getD (4 : Int).toNat 0) * 2 ^ 12))))] 2 ?_
  refine RunR.st (some 58) (.call { callee := .value (.func 99), args := #[.tmp 57], argTypes := #[86] }) (Step.cn 99 [.int .u64 ( bits2 .or .u64 (bits2 .or .u64 0 ((zs2.getD (3 : Int).toNat 0) / 2 ^ 39)) (IntKind.wrap .u64 ((zs2.getD (4 : Int).toNat 0) * 2 ^ 12)))] [] [row 5 1 (.slice Aq40 (((zs8 ++ zs21) ++ zs34).length) cq41) (((zs8 ++ zs21) ++ zs34).length) (nums .u8 ((zs8 ++ zs21) ++ zs34)), row 5 1 (.slice Aq32 zs34.length cq33) zs34.length (nums .u8 zs34), row 5 1 (.slice Aq19 zs21.length cq20) zs21.length (nums .u8 zs21), row 5 1 (.slice Aq6 zs8.length cq7) zs8.length (nums .u8 zs8), blk b5 131 (nums .u64 ([ bits2 .or .u64 (bits2 .or .u64 0 (IntKind.wrap .u64 ((zs2.getD (0 : Int).toNat 0) * 2 ^ 0))) (IntKind.wrap .u64 ((zs2.getD (1 : Int).toNat 0) * 2 ^ 51)), bits2 .or .u64 (bits2 .or .u64 0 ((zs2.getD (1 : Int).toNat 0) / 2 ^ 13)) (IntKind.wrap .u64 ((zs2.getD (2 : Int).toNat 0) * 2 ^ 38)), bits2 .or .u64 (bits2 .or .u64 0 ((zs2.getD (2 : Int).toNat 0) / 2 ^ 26)) (IntKind.wrap .u64 ((zs2.getD (3 : Int).toNat 0) * 2 ^ 25)), bits2 .or .u64 (bits2 .or .u64 0 ((zs2.getD (3 : Int).toNat 0) / 2 ^ 39)) (IntKind.wrap .u64 ((zs2.getD (4 : Int).toNat 0) * 2 ^ 12))] : List Int)), blk b1 89 (nums .u64 zs2)] (w_Put64_spec (bits2 .or .u64 (bits2 .or .u64 0 ((zs2.getD (3 : Int).toNat 0) / 2 ^ 39)) (IntKind.wrap .u64 ((zs2.getD (4 : Int).toNat 0) * 2 ^ 12))) (by exact fits_wrap _ _)) [] ?_)
  rintro _ _ ⟨Aq45, cq46, zs47, rfl, rfl, hp48, hp49, hp50, hp51, hp52⟩
  refine RunR.st (some 59) (.call { callee := .builtin .append, args := #[.tmp 56, .tmp 58], argTypes := #[23, 23] }) (Step.append_nums hU 5 1 (.int .u8 0) .u8 1 0 Aq40 (((zs8 ++ zs21) ++ zs34).length) cq41 ((zs8 ++ zs21) ++ zs34) Aq45 zs47.length cq46 (row 5 1 (.slice Aq45 zs47.length cq46) zs47.length (nums .u8 zs47)) zs47 rfl rfl rfl (by kernel_rfl) (by kernel_rfl) (by kernel_rfl) (by kernel_rfl) (tells_row _ _ _ _ _ _) (by rfl) (by rfl) (by omega) (by omega) (by kernel_rfl) (fun Aq53 cq54 hc55 hA56 => ?_))
  have hl57 : (((zs8 ++ zs21) ++ zs34) ++ zs47).length = ((zs8 ++ zs21) ++ zs34).length + zs47.length := List.length_append
  refine RunR.sl hU [] 1 5 [2, 7, 52, 53] [(2, .slice none 0 0), (7, .slice Aq53 ((((zs8 ++ zs21) ++ zs34) ++ zs47).length) cq54), (52, .agg (nums .u64 ([ bits2 .or .u64 (bits2 .or .u64 0 (IntKind.wrap .u64 ((zs2.getD (0 : Int).toNat 0) * 2 ^ 0))) (IntKind.wrap .u64 ((zs2.getD (1 : Int).toNat 0) * 2 ^ 51)), bits2 .or .u64 (bits2 .or .u64 0 ((zs2.getD (1 : Int).toNat 0) / 2 ^ 13)) (IntKind.wrap .u64 ((zs2.getD (2 : Int).toNat 0) * 2 ^ 38)), bits2 .or .u64 (bits2 .or .u64 0 ((zs2.getD (2 : Int).toNat 0) / 2 ^ 26)) (IntKind.wrap .u64 ((zs2.getD (3 : Int).toNat 0) * 2 ^ 25)), bits2 .or .u64 (bits2 .or .u64 0 ((zs2.getD (3 : Int).toNat 0) / 2 ^ 39)) (IntKind.wrap .u64 ((zs2.getD (4 : Int).toNat 0) * 2 ^ 12))] : List Int)).toArray), (53, .int .i64 3)] 1 ?_
  refine RunR.dn ?_
  refine kblock_n ?_
  refine kseq_n ?_
  refine RunC.region ?_
  refine RunR.sil hU [0] 2 2 [2, 7, 52, 53] [(2, .slice none 0 0), (7, .slice Aq53 ((((zs8 ++ zs21) ++ zs34) ++ zs47).length) cq54), (52, .agg (nums .u64 ([ bits2 .or .u64 (bits2 .or .u64 0 (IntKind.wrap .u64 ((zs2.getD (0 : Int).toNat 0) * 2 ^ 0))) (IntKind.wrap .u64 ((zs2.getD (1 : Int).toNat 0) * 2 ^ 51)), bits2 .or .u64 (bits2 .or .u64 0 ((zs2.getD (1 : Int).toNat 0) / 2 ^ 13)) (IntKind.wrap .u64 ((zs2.getD (2 : Int).toNat 0) * 2 ^ 38)), bits2 .or .u64 (bits2 .or .u64 0 ((zs2.getD (2 : Int).toNat 0) / 2 ^ 26)) (IntKind.wrap .u64 ((zs2.getD (3 : Int).toNat 0) * 2 ^ 25)), bits2 .or .u64 (bits2 .or .u64 0 ((zs2.getD (3 : Int).toNat 0) / 2 ^ 39)) (IntKind.wrap .u64 ((zs2.getD (4 : Int).toNat 0) * 2 ^ 12))] : List Int)).toArray), (53, .int .i64 4)] ((-9223372036854775808 ≤ ((3 : Int) + 1) ∧ ((3 : Int) + 1) < 9223372036854775808) ∧ (True) ∧ True) rfl (by kernel_rfl) ⟨(by decide), trivial, trivial⟩ ?_
  refine RunR.dn ?_
  refine kround_n ?_
  refine RunC.sr ?_
  refine RunR.sl hU [] 1 1 [2, 7, 52, 53, 54] [(2, .slice none 0 0), (7, .slice Aq53 ((((zs8 ++ zs21) ++ zs34) ++ zs47).length) cq54), (52, .agg (nums .u64 ([ bits2 .or .u64 (bits2 .or .u64 0 (IntKind.wrap .u64 ((zs2.getD (0 : Int).toNat 0) * 2 ^ 0))) (IntKind.wrap .u64 ((zs2.getD (1 : Int).toNat 0) * 2 ^ 51)), bits2 .or .u64 (bits2 .or .u64 0 ((zs2.getD (1 : Int).toNat 0) / 2 ^ 13)) (IntKind.wrap .u64 ((zs2.getD (2 : Int).toNat 0) * 2 ^ 38)), bits2 .or .u64 (bits2 .or .u64 0 ((zs2.getD (2 : Int).toNat 0) / 2 ^ 26)) (IntKind.wrap .u64 ((zs2.getD (3 : Int).toNat 0) * 2 ^ 25)), bits2 .or .u64 (bits2 .or .u64 0 ((zs2.getD (3 : Int).toNat 0) / 2 ^ 39)) (IntKind.wrap .u64 ((zs2.getD (4 : Int).toNat 0) * 2 ^ 12))] : List Int)).toArray), (53, .int .i64 4), (54, .bool false)] 1 ?_
  refine RunR.nn ?_
  refine RunC.seq ?_
  refine RunC.cond (b := false) (by kernel_rfl) (fun h => by cases h) (fun _ => ?_)
  refine RunC.exit ?_
  refine kseq_e ?_
  refine kround_e ?_
  refine kblock_e ?_
  refine kseq_n ?_
  refine RunC.sr ?_
  refine RunR.sl hU [] 2 2 [2] [(2, .slice Aq53 ((((zs8 ++ zs21) ++ zs34) ++ zs47).length) cq54)] 2 ?_
  refine RunR.nn ?_
  refine RunC.ret ?_
  refine kret_r [.slice Aq53 ((((zs8 ++ zs21) ++ zs34) ++ zs47).length) cq54] [0] [row 5 1 (.slice Aq53 ((((zs8 ++ zs21) ++ zs34) ++ zs47).length) cq54) ((((zs8 ++ zs21) ++ zs34) ++ zs47).length) (nums .u8 (((zs8 ++ zs21) ++ zs34) ++ zs47))] ⟨rfl, trivial⟩ (by kernel_rfl) rfl ⟨Aq53, cq54, (((zs8 ++ zs21) ++ zs34) ++ zs47), rfl, rfl, (by simp only [hp9, hp22, hp35, hp48]; exact bytes_dg (by assumption)), (by simp only [hp9, hp22, hp35, hp48, List.length_append, leB_len]), (by simp only [hp9, hp22, hp35, hp48]; exact bytes_in _ _ _ _), (by assumption), (by assumption)⟩
end Go.Proofs.Ytaaplakahkgclaa.X8
