/- What these functions compute: a contract for each, walked through its code. -/
import Derived.Test.YtaaplakahkgclaaSLzh
import Derived.Test.YtaaplakahkgclaaKPure
import Derived.Test.YtaaplakahkgclaaProg
import Derived.Test.YtaaplakahkgclaaX1
import Derived.Test.YtaaplakahkgclaaX2
import Derived.Test.YtaaplakahkgclaaX3
import Derived.Test.YtaaplakahkgclaaX4
import Derived.Test.YtaaplakahkgclaaX5
import Derived.Test.YtaaplakahkgclaaX6
import Derived.Test.YtaaplakahkgclaaX7
import Derived.Test.YtaaplakahkgclaaX8
import Derived.Test.YtaaplakahkgclaaX9
import Derived.Test.YtaaplakahkgclaaY1
import Derived.Test.YtaaplakahkgclaaY2
import Derived.Test.YtaaplakahkgclaaY3
import Derived.Test.YtaaplakahkgclaaY4
import Derived.Test.YtaaplakahkgclaaY5
import Derived.Test.YtaaplakahkgclaaY6
import Derived.Test.YtaaplakahkgclaaZ1
import Derived.Test.YtaaplakahkgclaaZ2
import Derived.Test.YtaaplakahkgclaaZ3
namespace Go.Proofs.Ytaaplakahkgclaa.Z4
open Go Go.Proofs.Ytaaplakahkgclaa.SL Go.Proofs.Ytaaplakahkgclaa.SL.W Go.Proofs.Ytaaplakahkgclaa.SL.F Go.Proofs.Ytaaplakahkgclaa.SL.N Go.Proofs.Ytaaplakahkgclaa.SL.E Go.Proofs.Ytaaplakahkgclaa.SL.K Go.Proofs.Ytaaplakahkgclaa.X1 Go.Proofs.Ytaaplakahkgclaa.X2 Go.Proofs.Ytaaplakahkgclaa.X3 Go.Proofs.Ytaaplakahkgclaa.X4 Go.Proofs.Ytaaplakahkgclaa.X5 Go.Proofs.Ytaaplakahkgclaa.X6 Go.Proofs.Ytaaplakahkgclaa.X7 Go.Proofs.Ytaaplakahkgclaa.X8 Go.Proofs.Ytaaplakahkgclaa.X9 Go.Proofs.Ytaaplakahkgclaa.Y1 Go.Proofs.Ytaaplakahkgclaa.Y2 Go.Proofs.Ytaaplakahkgclaa.Y3 Go.Proofs.Ytaaplakahkgclaa.Y4 Go.Proofs.Ytaaplakahkgclaa.Y5 Go.Proofs.Ytaaplakahkgclaa.Y6 Go.Proofs.Ytaaplakahkgclaa.Z1 Go.Proofs.Ytaaplakahkgclaa.Z2 Go.Proofs.Ytaaplakahkgclaa.Z3
set_option linter.unusedVariables false
set_option linter.unusedSimpArgs false
set_option maxRecDepth 100000
set_option maxHeartbeats 40000000
def U : Tab where
  und := [(86, .int .u64), (87, .array 5 86), (88, .struct #[{ name := "n", type := 87, offset := 0, embedded := false, tag := "", pkgPath := "orlop/field", byteOffset := 0 }]), (89, .struct #[{ name := "n", type := 87, offset := 0, embedded := false, tag := "", pkgPath := "orlop/field", byteOffset := 0 }]), (107, .struct #[{ name := "u", type := 89, offset := 0, embedded := false, tag := "", pkgPath := "orlop/curve", byteOffset := 0 }, { name := "x2", type := 89, offset := 5, embedded := false, tag := "", pkgPath := "orlop/curve", byteOffset := 40 }, { name := "z2", type := 89, offset := 10, embedded := false, tag := "", pkgPath := "orlop/curve", byteOffset := 80 }, { name := "x3", type := 89, offset := 15, embedded := false, tag := "", pkgPath := "orlop/curve", byteOffset := 120 }, { name := "z3", type := 89, offset := 20, embedded := false, tag := "", pkgPath := "orlop/curve", byteOffset := 160 }]), (108, .struct #[{ name := "u", type := 89, offset := 0, embedded := false, tag := "", pkgPath := "orlop/curve", byteOffset := 0 }, { name := "x2", type := 89, offset := 5, embedded := false, tag := "", pkgPath := "orlop/curve", byteOffset := 40 }, { name := "z2", type := 89, offset := 10, embedded := false, tag := "", pkgPath := "orlop/curve", byteOffset := 80 }, { name := "x3", type := 89, offset := 15, embedded := false, tag := "", pkgPath := "orlop/curve", byteOffset := 120 }, { name := "z3", type := 89, offset := 20, embedded := false, tag := "", pkgPath := "orlop/curve", byteOffset := 160 }])]
  fld := [((88, 0), (0, 87)), ((89, 0), (0, 87)), ((107, 0), (0, 89)), ((107, 1), (5, 89)), ((107, 2), (10, 89)), ((107, 3), (15, 89)), ((107, 4), (20, 89)), ((108, 0), (0, 89)), ((108, 1), (5, 89)), ((108, 2), (10, 89)), ((108, 3), (15, 89)), ((108, 4), (20, 89))]
  sz := [(86, 1), (87, 5), (88, 5), (89, 5), (107, 25), (108, 25)]
  ti := [(86, (1, 8, .int .u64 0)), (87, (5, 40, z5)), (88, (5, 40, z5)), (89, (5, 40, z5)), (107, (25, 200, .agg #[.int .u64 0, .int .u64 0, .int .u64 0, .int .u64 0, .int .u64 0, .int .u64 0, .int .u64 0, .int .u64 0, .int .u64 0, .int .u64 0, .int .u64 0, .int .u64 0, .int .u64 0, .int .u64 0, .int .u64 0, .int .u64 0, .int .u64 0, .int .u64 0, .int .u64 0, .int .u64 0, .int .u64 0, .int .u64 0, .int .u64 0, .int .u64 0, .int .u64 0])), (108, (25, 200, .agg #[.int .u64 0, .int .u64 0, .int .u64 0, .int .u64 0, .int .u64 0, .int .u64 0, .int .u64 0, .int .u64 0, .int .u64 0, .int .u64 0, .int .u64 0, .int .u64 0, .int .u64 0, .int .u64 0, .int .u64 0, .int .u64 0, .int .u64 0, .int .u64 0, .int .u64 0, .int .u64 0, .int .u64 0, .int .u64 0, .int .u64 0, .int .u64 0, .int .u64 0]))]
  bld := [(88, [(0, 5)]), (89, [(0, 5)]), (107, [(0, 5), (5, 5), (10, 5), (15, 5), (20, 5)]), (108, [(0, 5), (5, 5), (10, 5), (15, 5), (20, 5)])]

theorem hU : U.OK Try.prog where
  und := by
    intro p hp
    simp only [U, List.mem_cons, List.not_mem_nil, or_false] at hp
    rcases hp with rfl | rfl | rfl | rfl | rfl | rfl
    · exact Try.underlying86
    · exact Try.underlying87
    · exact Try.underlying88
    · exact Try.underlying89
    · exact Try.underlying107
    · exact Try.underlying108
  fld := by
    intro p hp
    simp only [U, List.mem_cons, List.not_mem_nil, or_false] at hp
    rcases hp with rfl | rfl | rfl | rfl | rfl | rfl | rfl | rfl | rfl | rfl | rfl | rfl
    · exact ⟨_, _, Try.underlying88, rfl, rfl, rfl, Try.prog.types[87]!, by kernel_rfl, by decide +kernel⟩
    · exact ⟨_, _, Try.underlying89, rfl, rfl, rfl, Try.prog.types[87]!, by kernel_rfl, by decide +kernel⟩
    · exact ⟨_, _, Try.underlying107, rfl, rfl, rfl, Try.prog.types[89]!, by kernel_rfl, by decide +kernel⟩
    · exact ⟨_, _, Try.underlying107, rfl, rfl, rfl, Try.prog.types[89]!, by kernel_rfl, by decide +kernel⟩
    · exact ⟨_, _, Try.underlying107, rfl, rfl, rfl, Try.prog.types[89]!, by kernel_rfl, by decide +kernel⟩
    · exact ⟨_, _, Try.underlying107, rfl, rfl, rfl, Try.prog.types[89]!, by kernel_rfl, by decide +kernel⟩
    · exact ⟨_, _, Try.underlying107, rfl, rfl, rfl, Try.prog.types[89]!, by kernel_rfl, by decide +kernel⟩
    · exact ⟨_, _, Try.underlying108, rfl, rfl, rfl, Try.prog.types[89]!, by kernel_rfl, by decide +kernel⟩
    · exact ⟨_, _, Try.underlying108, rfl, rfl, rfl, Try.prog.types[89]!, by kernel_rfl, by decide +kernel⟩
    · exact ⟨_, _, Try.underlying108, rfl, rfl, rfl, Try.prog.types[89]!, by kernel_rfl, by decide +kernel⟩
    · exact ⟨_, _, Try.underlying108, rfl, rfl, rfl, Try.prog.types[89]!, by kernel_rfl, by decide +kernel⟩
    · exact ⟨_, _, Try.underlying108, rfl, rfl, rfl, Try.prog.types[89]!, by kernel_rfl, by decide +kernel⟩
  sz := by
    intro p hp
    simp only [U, List.mem_cons, List.not_mem_nil, or_false] at hp
    rcases hp with rfl | rfl | rfl | rfl | rfl | rfl
    · exact ⟨Try.prog.types[86]!, by kernel_rfl, by kernel_rfl⟩
    · exact ⟨Try.prog.types[87]!, by kernel_rfl, by kernel_rfl⟩
    · exact ⟨Try.prog.types[88]!, by kernel_rfl, by kernel_rfl⟩
    · exact ⟨Try.prog.types[89]!, by kernel_rfl, by kernel_rfl⟩
    · exact ⟨Try.prog.types[107]!, by kernel_rfl, by kernel_rfl⟩
    · exact ⟨Try.prog.types[108]!, by kernel_rfl, by kernel_rfl⟩
  ti := by
    intro p hp
    simp only [U, List.mem_cons, List.not_mem_nil, or_false] at hp
    rcases hp with rfl | rfl | rfl | rfl | rfl | rfl
    · exact ⟨Try.prog.types[86]!, by kernel_rfl, by kernel_rfl, by kernel_rfl, by kernel_rfl⟩
    · exact ⟨Try.prog.types[87]!, by kernel_rfl, by kernel_rfl, by kernel_rfl, by kernel_rfl⟩
    · exact ⟨Try.prog.types[88]!, by kernel_rfl, by kernel_rfl, by kernel_rfl, by kernel_rfl⟩
    · exact ⟨Try.prog.types[89]!, by kernel_rfl, by kernel_rfl, by kernel_rfl, by kernel_rfl⟩
    · exact ⟨Try.prog.types[107]!, by kernel_rfl, by kernel_rfl, by kernel_rfl, by kernel_rfl⟩
    · exact ⟨Try.prog.types[108]!, by kernel_rfl, by kernel_rfl, by kernel_rfl, by kernel_rfl⟩
  bld := by
    intro p hp
    simp only [U, List.mem_cons, List.not_mem_nil, or_false] at hp
    rcases hp with rfl | rfl | rfl | rfl
    · exact ⟨_, Try.underlying88, by kernel_rfl⟩
    · exact ⟨_, Try.underlying89, by kernel_rfl⟩
    · exact ⟨_, Try.underlying107, by kernel_rfl⟩
    · exact ⟨_, Try.underlying108, by kernel_rfl⟩
  mixed := by kernel_rfl

theorem k_step_spec (b : Nat) (us : List Int) (xs2 : List Int) (zs2 : List Int) (xs3 : List Int) (zs3 : List Int) (u : Int) (x2 : Int) (z2 : Int) (x3 : Int) (z3 : Int) (hEu : El us u) (hEx2 : El xs2 x2) (hEz2 : El zs2 z2) (hEx3 : El xs3 x3) (hEz3 : El zs3 z3) (hlu : us.length = 5) (hlx2 : xs2.length = 5) (hlz2 : zs2.length = 5) (hlx3 : xs3.length = 5) (hlz3 : zs3.length = 5) :
    CallsS Try.prog 74 [pt b] [blk b 108 (nums .u64 us ++ (nums .u64 xs2 ++ (nums .u64 zs2 ++ (nums .u64 xs3 ++ nums .u64 zs3))))] (fun r D => ∃ (ya : List Int) (yb : List Int) (yc : List Int) (yd : List Int), r = .tuple #[] ∧ D = [blk b 108 (nums .u64 us ++ (nums .u64 ya ++ (nums .u64 yb ++ (nums .u64 yc ++ nums .u64 yd))))] ∧ (El ya (nx2 x2 z2)) ∧ (El yb (nz2 x2 z2)) ∧ (El yc (nx3 x2 z2 x3 z3)) ∧ (El yd (nz3 u x2 z2 x3 z3)) ∧ (ya.length = 5) ∧ (yb.length = 5) ∧ (yc.length = 5) ∧ (yd.length = 5)) := by
  refine CallsS.enter hU Try.f74 _ [] 90 Try.func74 rfl (by decide) rfl rfl (by kernel_rfl) fun w0 W => ?_
  refine RunC.seq ?_
  refine RunC.regionU hU 22 [blk b 108 (nums .u64 us ++ (nums .u64 xs2 ++ (nums .u64 zs2 ++ (nums .u64 xs3 ++ nums .u64 zs3))))] [0] [17, 20, 21] (bm 22 0) (by kernel_rfl) (by kernel_rfl) (by kernel_rfl) ?_
  refine RunU.sl hU 0 (bm 22 1) 9 (pt b) ?_
  refine RunU.sl hU 1 (bm 22 3) 10 (pt b) ?_
  refine RunU.sl hU 2 (bm 22 7) 11 (.pointer (some ⟨b, 5, none⟩)) ?_
  refine RunU.rd 3 (bm 22 15) 12 (.load 89 (.tmp 11)) (ag .u64 xs2) [0] (Reads.load_blk hU 0 b (5) 108 (nums .u64 us ++ (nums .u64 xs2 ++ (nums .u64 zs2 ++ (nums .u64 xs3 ++ nums .u64 zs3)))) (ag .u64 xs2) (by kernel_rfl) (by kernel_rfl) (loadv_seg (n := 5) (by kernel_rfl) (by kernel_rfl) (show Seg _ 5 _ from Seg.skip (n := 5) (o := 0) (by rw [nums_length]; assumption) (Seg.here _ _)) (by rw [nums_length]; assumption))) ?_
  refine RunU.sl hU 4 (bm 22 31) 13 (pt b) ?_
  refine RunU.sl hU 5 (bm 22 63) 14 (pt b) ?_
  refine RunU.sl hU 6 (bm 22 127) 15 (.pointer (some ⟨b, 10, none⟩)) ?_
  refine RunU.rd 7 (bm 22 255) 16 (.load 89 (.tmp 15)) (ag .u64 zs2) [0] (Reads.load_blk hU 0 b (10) 108 (nums .u64 us ++ (nums .u64 xs2 ++ (nums .u64 zs2 ++ (nums .u64 xs3 ++ nums .u64 zs3)))) (ag .u64 zs2) (by kernel_rfl) (by kernel_rfl) (loadv_seg (n := 5) (by kernel_rfl) (by kernel_rfl) (show Seg _ 10 _ from Seg.skip (n := 5) (o := 5) (by rw [nums_length]; assumption) (Seg.skip (n := 5) (o := 0) (by rw [nums_length]; assumption) (Seg.here _ _))) (by rw [nums_length]; assumption))) ?_
  refine RunU.sl hU 9 (bm 22 767) 18 (pt b) ?_
  refine RunU.sl hU 10 (bm 22 1791) 19 (pt b) ?_
  refine RunU.sl hU 11 (bm 22 3839) 20 (.pointer (some ⟨b, 5, none⟩)) ?_
  refine RunU.rd 12 (bm 22 7935) 21 (.load 89 (.tmp 20)) (ag .u64 xs2) [0] (Reads.load_blk hU 0 b (5) 108 (nums .u64 us ++ (nums .u64 xs2 ++ (nums .u64 zs2 ++ (nums .u64 xs3 ++ nums .u64 zs3)))) (ag .u64 xs2) (by kernel_rfl) (by kernel_rfl) (loadv_seg (n := 5) (by kernel_rfl) (by kernel_rfl) (show Seg _ 5 _ from Seg.skip (n := 5) (o := 0) (by rw [nums_length]; assumption) (Seg.here _ _)) (by rw [nums_length]; assumption))) ?_
  refine RunU.sl hU 13 (bm 22 16127) 22 (pt b) ?_
  refine RunU.sl hU 14 (bm 22 32511) 23 (pt b) ?_
  refine RunU.sl hU 15 (bm 22 65279) 24 (.pointer (some ⟨b, 10, none⟩)) ?_
  refine RunU.rd 16 (bm 22 130815) 25 (.load 89 (.tmp 24)) (ag .u64 zs2) [0] (Reads.load_blk hU 0 b (10) 108 (nums .u64 us ++ (nums .u64 xs2 ++ (nums .u64 zs2 ++ (nums .u64 xs3 ++ nums .u64 zs3)))) (ag .u64 zs2) (by kernel_rfl) (by kernel_rfl) (loadv_seg (n := 5) (by kernel_rfl) (by kernel_rfl) (show Seg _ 10 _ from Seg.skip (n := 5) (o := 5) (by rw [nums_length]; assumption) (Seg.skip (n := 5) (o := 0) (by rw [nums_length]; assumption) (Seg.here _ _))) (by rw [nums_length]; assumption))) ?_
  refine RunU.ev [0, 12, 16, 21, 25] [(0, pt b), (12, ag .u64 xs2), (16, ag .u64 zs2), (21, ag .u64 xs2), (25, ag .u64 zs2)] ?_
  refine RunU.name (fun R_ hR_ => ?_)
  have hD48_0 : ∀ (zs1 : List Int) (zs4 : List Int) (b7 : Nat) (b9 : Nat), El zs1 ((x2 + z2) % P) → zs1.length = 5 → El zs4 ((x2 - z2) % P) → zs4.length = 5 → R_ 2 (bm 22 1048575) [(0, pt b), (2, pt b7), (3, pt b9), (17, ag .u64 zs1), (26, ag .u64 zs4)] [blk b9 89 (nums .u64 (List.replicate 5 (0 : Int))), blk b7 89 (nums .u64 (List.replicate 5 (0 : Int))), blk b 108 (nums .u64 us ++ (nums .u64 xs2 ++ (nums .u64 zs2 ++ (nums .u64 xs3 ++ nums .u64 zs3))))] := by
    intro zs1 zs4 b7 b9 hp2 hp3 hp5 hp6
    rw [hR_]
    refine RunU.on none (.store 89 (.tmp 2) (.tmp 17)) 20 (bm 22 2097151) [] (Step.ss hU 1 b7 (0) 89 (nums .u64 (List.replicate 5 (0 : Int))) (nums .u64 zs1) (nums .u64 zs1) (ag .u64 zs1) 5 (by (simp only [List.length_append, nums_length, List.length_cons, List.length_nil, List.length_replicate]; omega)) (show Put _ 0 _ _ from Put.all (by simp only [List.length_append, nums_length, List.length_cons, List.length_nil, List.length_replicate] <;> omega)) ?_)
    refine orR ?_
    refine RunU.on none (.store 89 (.tmp 3) (.tmp 26)) 21 (bm 22 4194303) [] (Step.ss hU 1 b9 (0) 89 (nums .u64 (List.replicate 5 (0 : Int))) (nums .u64 zs4) (nums .u64 zs4) (ag .u64 zs4) 5 (by (simp only [List.length_append, nums_length, List.length_cons, List.length_nil, List.length_replicate]; omega)) (show Put _ 0 _ _ from Put.all (by simp only [List.length_append, nums_length, List.length_cons, List.length_nil, List.length_replicate] <;> omega)) ?_)
    refine orR ?_
    refine RunU.ev [0, 2, 3] [(0, pt b), (2, pt b7), (3, pt b9)] ?_
    refine RunU.dn ?_
    refine kseq_n ?_
    refine RunC.seq ?_
    refine RunC.regionU hU 8 [blk b7 89 (nums .u64 zs1), blk b9 89 (nums .u64 zs4)] [1, 0] [3, 6, 7] (bm 8 0) (by kernel_rfl) (by kernel_rfl) (by kernel_rfl) ?_
    refine RunU.rd 0 (bm 8 1) 27 (.load 89 (.tmp 2)) (ag .u64 zs1) [1, 0] (Reads.load_blk hU 0 b7 (0) 89 (nums .u64 zs1) (ag .u64 zs1) (by kernel_rfl) (by kernel_rfl) (loadv_seg (n := 5) (by kernel_rfl) (by kernel_rfl) (Seg.all _) (by simp only [List.length_append, nums_length, List.length_cons, List.length_nil] <;> omega))) ?_
    refine RunU.rd 2 (bm 8 5) 29 (.load 89 (.tmp 3)) (ag .u64 zs4) [1, 0] (Reads.load_blk hU 1 b9 (0) 89 (nums .u64 zs4) (ag .u64 zs4) (by kernel_rfl) (by kernel_rfl) (loadv_seg (n := 5) (by kernel_rfl) (by kernel_rfl) (Seg.all _) (by simp only [List.length_append, nums_length, List.length_cons, List.length_nil] <;> omega))) ?_
    refine RunU.ev [0, 2, 3, 27, 29] [(0, pt b), (2, pt b7), (3, pt b9), (27, ag .u64 zs1), (29, ag .u64 zs4)] ?_
    refine RunU.name (fun R_ hR_ => ?_)
    have hD97_0 : ∀ (zs50 : List Int) (zs53 : List Int) (b56 : Nat) (b58 : Nat), El zs50 ((((x2 + z2) % P) * ((x2 + z2) % P)) % P) → zs50.length = 5 → El zs53 ((((x2 - z2) % P) * ((x2 - z2) % P)) % P) → zs53.length = 5 → R_ 2 (bm 8 63) [(0, pt b), (2, pt b7), (3, pt b9), (4, pt b56), (5, pt b58), (28, ag .u64 zs50), (30, ag .u64 zs53)] [blk b58 89 (nums .u64 (List.replicate 5 (0 : Int))), blk b56 89 (nums .u64 (List.replicate 5 (0 : Int))), blk b9 89 (nums .u64 zs4), blk b7 89 (nums .u64 zs1), blk b 108 (nums .u64 us ++ (nums .u64 xs2 ++ (nums .u64 zs2 ++ (nums .u64 xs3 ++ nums .u64 zs3))))] := by
      intro zs50 zs53 b56 b58 hp51 hp52 hp54 hp55
      rw [hR_]
      refine RunU.on none (.store 89 (.tmp 4) (.tmp 28)) 6 (bm 8 127) [] (Step.ss hU 1 b56 (0) 89 (nums .u64 (List.replicate 5 (0 : Int))) (nums .u64 zs50) (nums .u64 zs50) (ag .u64 zs50) 5 (by (simp only [List.length_append, nums_length, List.length_cons, List.length_nil, List.length_replicate]; omega)) (show Put _ 0 _ _ from Put.all (by simp only [List.length_append, nums_length, List.length_cons, List.length_nil, List.length_replicate] <;> omega)) ?_)
      refine orR ?_
      refine RunU.on none (.store 89 (.tmp 5) (.tmp 30)) 7 (bm 8 255) [] (Step.ss hU 1 b58 (0) 89 (nums .u64 (List.replicate 5 (0 : Int))) (nums .u64 zs53) (nums .u64 zs53) (ag .u64 zs53) 5 (by (simp only [List.length_append, nums_length, List.length_cons, List.length_nil, List.length_replicate]; omega)) (show Put _ 0 _ _ from Put.all (by simp only [List.length_append, nums_length, List.length_cons, List.length_nil, List.length_replicate] <;> omega)) ?_)
      refine orR ?_
      refine RunU.ev [0, 2, 3, 4, 5] [(0, pt b), (2, pt b7), (3, pt b9), (4, pt b56), (5, pt b58)] ?_
      refine RunU.dn ?_
      refine kseq_n ?_
      refine RunC.sr ?_
      refine RunR.st (some 31) (.load 89 (.tmp 4)) (Step.load_blk hU 1 b56 (0) 89 (nums .u64 zs50) (ag .u64 zs50) (by kernel_rfl) (by kernel_rfl) (loadv_seg (n := 5) (by kernel_rfl) (by kernel_rfl) (Seg.all _) (by simp only [List.length_append, nums_length, List.length_cons, List.length_nil] <;> omega)) (by kernel_rfl) ?_)
      refine RunR.st (some 32) (.load 89 (.tmp 5)) (Step.load_blk hU 0 b58 (0) 89 (nums .u64 zs53) (ag .u64 zs53) (by kernel_rfl) (by kernel_rfl) (loadv_seg (n := 5) (by kernel_rfl) (by kernel_rfl) (Seg.all _) (by simp only [List.length_append, nums_length, List.length_cons, List.length_nil] <;> omega)) (by kernel_rfl) ?_)
      refine RunR.st (some 33) (.call { callee := .value (.func 90), args := #[.tmp 31, .tmp 32], argTypes := #[89, 89] }) (Step.cn 90 [ag .u64 zs50, ag .u64 zs53] [] [blk b58 89 (nums .u64 zs53), blk b56 89 (nums .u64 zs50), blk b9 89 (nums .u64 zs4), blk b7 89 (nums .u64 zs1), blk b 108 (nums .u64 us ++ (nums .u64 xs2 ++ (nums .u64 zs2 ++ (nums .u64 xs3 ++ nums .u64 zs3))))] (f_Sub_spec zs50 ((((x2 + z2) % P) * ((x2 + z2) % P)) % P) zs53 ((((x2 - z2) % P) * ((x2 - z2) % P)) % P) (by assumption) (by assumption) (by assumption) (by assumption)) [] ?_)
      rintro _ _ ⟨zs99, rfl, rfl, hp100, hp101⟩
      refine RunR.st (some 6) (.alloc 89) (Step.al hU 5 40 z5 (fun b102 => ?_))
      have hl103 : (List.replicate 5 (0 : Int)).length = 5 := List.length_replicate
      refine RunR.st none (.store 89 (.tmp 6) (.tmp 33)) (Step.ss hU 0 b102 (0) 89 (nums .u64 (List.replicate 5 (0 : Int))) (nums .u64 zs99) (nums .u64 zs99) (ag .u64 zs99) 5 (by (simp only [List.length_append, nums_length, List.length_cons, List.length_nil, List.length_replicate]; omega)) (show Put _ 0 _ _ from Put.all (by simp only [List.length_append, nums_length, List.length_cons, List.length_nil, List.length_replicate] <;> omega)) ?_)
      refine RunR.nn ?_
      refine RunC.seq ?_
      refine RunC.regionU hU 26 [blk b 108 (nums .u64 us ++ (nums .u64 xs2 ++ (nums .u64 zs2 ++ (nums .u64 xs3 ++ nums .u64 zs3)))), blk b7 89 (nums .u64 zs1), blk b9 89 (nums .u64 zs4)] [5, 4, 3] [21, 24, 25] (bm 26 0) (by kernel_rfl) (by kernel_rfl) (by kernel_rfl) ?_
      refine RunU.sl hU 0 (bm 26 1) 34 (pt b) ?_
      refine RunU.sl hU 1 (bm 26 3) 35 (pt b) ?_
      refine RunU.sl hU 2 (bm 26 7) 36 (.pointer (some ⟨b, 15, none⟩)) ?_
      refine RunU.rd 3 (bm 26 15) 37 (.load 89 (.tmp 36)) (ag .u64 xs3) [5, 4, 3] (Reads.load_blk hU 0 b (15) 108 (nums .u64 us ++ (nums .u64 xs2 ++ (nums .u64 zs2 ++ (nums .u64 xs3 ++ nums .u64 zs3)))) (ag .u64 xs3) (by kernel_rfl) (by kernel_rfl) (loadv_seg (n := 5) (by kernel_rfl) (by kernel_rfl) (show Seg _ 15 _ from Seg.skip (n := 5) (o := 10) (by rw [nums_length]; assumption) (Seg.skip (n := 5) (o := 5) (by rw [nums_length]; assumption) (Seg.skip (n := 5) (o := 0) (by rw [nums_length]; assumption) (Seg.here _ _)))) (by rw [nums_length]; assumption))) ?_
      refine RunU.sl hU 4 (bm 26 31) 38 (pt b) ?_
      refine RunU.sl hU 5 (bm 26 63) 39 (pt b) ?_
      refine RunU.sl hU 6 (bm 26 127) 40 (.pointer (some ⟨b, 20, none⟩)) ?_
      refine RunU.rd 7 (bm 26 255) 41 (.load 89 (.tmp 40)) (ag .u64 zs3) [5, 4, 3] (Reads.load_blk hU 0 b (20) 108 (nums .u64 us ++ (nums .u64 xs2 ++ (nums .u64 zs2 ++ (nums .u64 xs3 ++ nums .u64 zs3)))) (ag .u64 zs3) (by kernel_rfl) (by kernel_rfl) (loadv_seg (n := 5) (by kernel_rfl) (by kernel_rfl) (show Seg _ 20 _ from Seg.skip (n := 5) (o := 15) (by rw [nums_length]; assumption) (Seg.skip (n := 5) (o := 10) (by rw [nums_length]; assumption) (Seg.skip (n := 5) (o := 5) (by rw [nums_length]; assumption) (Seg.skip (n := 5) (o := 0) (by rw [nums_length]; assumption) (Seg.all _))))) (by rw [nums_length]; assumption))) ?_
      refine RunU.rd 9 (bm 26 767) 43 (.load 89 (.tmp 2)) (ag .u64 zs1) [5, 4, 3] (Reads.load_blk hU 1 b7 (0) 89 (nums .u64 zs1) (ag .u64 zs1) (by kernel_rfl) (by kernel_rfl) (loadv_seg (n := 5) (by kernel_rfl) (by kernel_rfl) (Seg.all _) (by simp only [List.length_append, nums_length, List.length_cons, List.length_nil] <;> omega))) ?_
      refine RunU.sl hU 11 (bm 26 2815) 45 (pt b) ?_
      refine RunU.sl hU 12 (bm 26 6911) 46 (pt b) ?_
      refine RunU.sl hU 13 (bm 26 15103) 47 (.pointer (some ⟨b, 15, none⟩)) ?_
      refine RunU.rd 14 (bm 26 31487) 48 (.load 89 (.tmp 47)) (ag .u64 xs3) [5, 4, 3] (Reads.load_blk hU 0 b (15) 108 (nums .u64 us ++ (nums .u64 xs2 ++ (nums .u64 zs2 ++ (nums .u64 xs3 ++ nums .u64 zs3)))) (ag .u64 xs3) (by kernel_rfl) (by kernel_rfl) (loadv_seg (n := 5) (by kernel_rfl) (by kernel_rfl) (show Seg _ 15 _ from Seg.skip (n := 5) (o := 10) (by rw [nums_length]; assumption) (Seg.skip (n := 5) (o := 5) (by rw [nums_length]; assumption) (Seg.skip (n := 5) (o := 0) (by rw [nums_length]; assumption) (Seg.here _ _)))) (by rw [nums_length]; assumption))) ?_
      refine RunU.sl hU 15 (bm 26 64255) 49 (pt b) ?_
      refine RunU.sl hU 16 (bm 26 129791) 50 (pt b) ?_
      refine RunU.sl hU 17 (bm 26 260863) 51 (.pointer (some ⟨b, 20, none⟩)) ?_
      refine RunU.rd 18 (bm 26 523007) 52 (.load 89 (.tmp 51)) (ag .u64 zs3) [5, 4, 3] (Reads.load_blk hU 0 b (20) 108 (nums .u64 us ++ (nums .u64 xs2 ++ (nums .u64 zs2 ++ (nums .u64 xs3 ++ nums .u64 zs3)))) (ag .u64 zs3) (by kernel_rfl) (by kernel_rfl) (loadv_seg (n := 5) (by kernel_rfl) (by kernel_rfl) (show Seg _ 20 _ from Seg.skip (n := 5) (o := 15) (by rw [nums_length]; assumption) (Seg.skip (n := 5) (o := 10) (by rw [nums_length]; assumption) (Seg.skip (n := 5) (o := 5) (by rw [nums_length]; assumption) (Seg.skip (n := 5) (o := 0) (by rw [nums_length]; assumption) (Seg.all _))))) (by rw [nums_length]; assumption))) ?_
      refine RunU.rd 20 (bm 26 1571583) 54 (.load 89 (.tmp 3)) (ag .u64 zs4) [5, 4, 3] (Reads.load_blk hU 2 b9 (0) 89 (nums .u64 zs4) (ag .u64 zs4) (by kernel_rfl) (by kernel_rfl) (loadv_seg (n := 5) (by kernel_rfl) (by kernel_rfl) (Seg.all _) (by simp only [List.length_append, nums_length, List.length_cons, List.length_nil] <;> omega))) ?_
      refine RunU.ev [0, 4, 5, 6, 37, 41, 43, 48, 52, 54] [(0, pt b), (4, pt b56), (5, pt b58), (6, pt b102), (37, ag .u64 xs3), (41, ag .u64 zs3), (43, ag .u64 zs1), (48, ag .u64 xs3), (52, ag .u64 zs3), (54, ag .u64 zs4)] ?_
      refine RunU.name (fun R_ hR_ => ?_)
      have hD191_0 : ∀ (zs107 : List Int) (zs113 : List Int) (b116 : Nat) (b118 : Nat), El zs107 ((((x3 - z3) % P) * ((x2 + z2) % P)) % P) → zs107.length = 5 → El zs113 ((((x3 + z3) % P) * ((x2 - z2) % P)) % P) → zs113.length = 5 → R_ 2 (bm 26 16777215) [(0, pt b), (4, pt b56), (5, pt b58), (6, pt b102), (7, pt b116), (8, pt b118), (44, ag .u64 zs107), (55, ag .u64 zs113)] [blk b118 89 (nums .u64 (List.replicate 5 (0 : Int))), blk b116 89 (nums .u64 (List.replicate 5 (0 : Int))), blk b102 89 (nums .u64 zs99), blk b58 89 (nums .u64 zs53), blk b56 89 (nums .u64 zs50), blk b9 89 (nums .u64 zs4), blk b7 89 (nums .u64 zs1), blk b 108 (nums .u64 us ++ (nums .u64 xs2 ++ (nums .u64 zs2 ++ (nums .u64 xs3 ++ nums .u64 zs3))))] := by
        intro zs107 zs113 b116 b118 hp108 hp109 hp114 hp115
        rw [hR_]
        refine RunU.on none (.store 89 (.tmp 7) (.tmp 44)) 24 (bm 26 33554431) [] (Step.ss hU 1 b116 (0) 89 (nums .u64 (List.replicate 5 (0 : Int))) (nums .u64 zs107) (nums .u64 zs107) (ag .u64 zs107) 5 (by (simp only [List.length_append, nums_length, List.length_cons, List.length_nil, List.length_replicate]; omega)) (show Put _ 0 _ _ from Put.all (by simp only [List.length_append, nums_length, List.length_cons, List.length_nil, List.length_replicate] <;> omega)) ?_)
        refine orR ?_
        refine RunU.on none (.store 89 (.tmp 8) (.tmp 55)) 25 (bm 26 67108863) [] (Step.ss hU 1 b118 (0) 89 (nums .u64 (List.replicate 5 (0 : Int))) (nums .u64 zs113) (nums .u64 zs113) (ag .u64 zs113) 5 (by (simp only [List.length_append, nums_length, List.length_cons, List.length_nil, List.length_replicate]; omega)) (show Put _ 0 _ _ from Put.all (by simp only [List.length_append, nums_length, List.length_cons, List.length_nil, List.length_replicate] <;> omega)) ?_)
        refine orR ?_
        refine RunU.ev [0, 4, 5, 6, 7, 8] [(0, pt b), (4, pt b56), (5, pt b58), (6, pt b102), (7, pt b116), (8, pt b118)] ?_
        refine RunU.dn ?_
        refine kseq_n ?_
        refine RunC.sr ?_
        refine RunR.sl hU [] 1 1 [0, 4, 5, 6, 7, 8, 56] [(0, pt b), (4, pt b56), (5, pt b58), (6, pt b102), (7, pt b116), (8, pt b118), (56, pt b)] 1 ?_
        refine RunR.st (some 57) (.load 89 (.tmp 7)) (Step.load_blk hU 1 b116 (0) 89 (nums .u64 zs107) (ag .u64 zs107) (by kernel_rfl) (by kernel_rfl) (loadv_seg (n := 5) (by kernel_rfl) (by kernel_rfl) (Seg.all _) (by simp only [List.length_append, nums_length, List.length_cons, List.length_nil] <;> omega)) (by kernel_rfl) ?_)
        refine RunR.st (some 58) (.load 89 (.tmp 8)) (Step.load_blk hU 0 b118 (0) 89 (nums .u64 zs113) (ag .u64 zs113) (by kernel_rfl) (by kernel_rfl) (loadv_seg (n := 5) (by kernel_rfl) (by kernel_rfl) (Seg.all _) (by simp only [List.length_append, nums_length, List.length_cons, List.length_nil] <;> omega)) (by kernel_rfl) ?_)
        refine RunR.st (some 59) (.call { callee := .value (.func 89), args := #[.tmp 57, .tmp 58], argTypes := #[89, 89] }) (Step.cn 89 [ag .u64 zs107, ag .u64 zs113] [] [blk b118 89 (nums .u64 zs113), blk b116 89 (nums .u64 zs107), blk b102 89 (nums .u64 zs99), blk b58 89 (nums .u64 zs53), blk b56 89 (nums .u64 zs50), blk b9 89 (nums .u64 zs4), blk b7 89 (nums .u64 zs1), blk b 108 (nums .u64 us ++ (nums .u64 xs2 ++ (nums .u64 zs2 ++ (nums .u64 xs3 ++ nums .u64 zs3))))] (f_Add_spec zs107 ((((x3 - z3) % P) * ((x2 + z2) % P)) % P) zs113 ((((x3 + z3) % P) * ((x2 - z2) % P)) % P) (by assumption) (by assumption) (by assumption) (by assumption)) [] ?_)
        rintro _ _ ⟨zs193, rfl, rfl, hp194, hp195⟩
        refine RunR.st (some 60) (.call { callee := .value (.func 91), args := #[.tmp 59], argTypes := #[89] }) (Step.cn 91 [ag .u64 zs193] [] [blk b118 89 (nums .u64 zs113), blk b116 89 (nums .u64 zs107), blk b102 89 (nums .u64 zs99), blk b58 89 (nums .u64 zs53), blk b56 89 (nums .u64 zs50), blk b9 89 (nums .u64 zs4), blk b7 89 (nums .u64 zs1), blk b 108 (nums .u64 us ++ (nums .u64 xs2 ++ (nums .u64 zs2 ++ (nums .u64 xs3 ++ nums .u64 zs3))))] (f_Square_spec zs193 ((((((x3 - z3) % P) * ((x2 + z2) % P)) % P) + ((((x3 + z3) % P) * ((x2 - z2) % P)) % P)) % P) (by assumption) (by assumption)) [] ?_)
        rintro _ _ ⟨zs196, rfl, rfl, hp197, hp198⟩
        refine RunR.sl hU [] 2 7 [0, 4, 5, 6, 7, 8, 60, 62] [(0, pt b), (4, pt b56), (5, pt b58), (6, pt b102), (7, pt b116), (8, pt b118), (60, ag .u64 zs196), (62, .pointer (some ⟨b, 15, none⟩))] 2 ?_
        refine RunR.st none (.store 89 (.tmp 62) (.tmp 60)) (Step.store_seg hU 7 b (15) 108 (nums .u64 us ++ (nums .u64 xs2 ++ (nums .u64 zs2 ++ (nums .u64 xs3 ++ nums .u64 zs3)))) (nums .u64 us ++ (nums .u64 xs2 ++ (nums .u64 zs2 ++ (nums .u64 zs196 ++ nums .u64 zs3)))) (nums .u64 zs196) (ag .u64 zs196) (by kernel_rfl) (by kernel_rfl) (by kernel_rfl) 5 (by kernel_rfl) (by kernel_rfl) (by (simp only [List.length_append, nums_length, List.length_cons, List.length_nil, List.length_replicate]; omega)) (all_one_nums _ _) (show Put _ 15 _ _ from Put.skip (n := 5) (o := 10) (by rw [nums_length]; assumption) (Put.skip (n := 5) (o := 5) (by rw [nums_length]; assumption) (Put.skip (n := 5) (o := 0) (by rw [nums_length]; assumption) (Put.here _ (by simp only [nums_length]; omega))))) ?_)
        refine RunR.nn ?_
        refine RunC.seq ?_
        refine RunC.regionU hU 13 [blk b 108 (nums .u64 us ++ (nums .u64 xs2 ++ (nums .u64 zs2 ++ (nums .u64 zs196 ++ nums .u64 zs3)))), blk b116 89 (nums .u64 zs107), blk b118 89 (nums .u64 zs113)] [0, 2, 1] [9, 10, 11, 12] (bm 13 0) (by kernel_rfl) (by kernel_rfl) (by kernel_rfl) ?_
        refine RunU.sl hU 0 (bm 13 1) 63 (pt b) ?_
        refine RunU.sl hU 1 (bm 13 3) 64 (pt b) ?_
        refine RunU.sl hU 2 (bm 13 7) 65 (pt b) ?_
        refine RunU.sl hU 3 (bm 13 15) 66 (pt b) ?_
        refine RunU.rd 4 (bm 13 31) 67 (.load 89 (.tmp 66)) (ag .u64 us) [0, 2, 1] (Reads.load_blk hU 0 b (0) 108 (nums .u64 us ++ (nums .u64 xs2 ++ (nums .u64 zs2 ++ (nums .u64 zs196 ++ nums .u64 zs3)))) (ag .u64 us) (by kernel_rfl) (by kernel_rfl) (loadv_seg (n := 5) (by kernel_rfl) (by kernel_rfl) (show Seg _ 0 _ from Seg.here _ _) (by rw [nums_length]; assumption))) ?_
        refine RunU.rd 5 (bm 13 63) 68 (.load 89 (.tmp 7)) (ag .u64 zs107) [0, 2, 1] (Reads.load_blk hU 1 b116 (0) 89 (nums .u64 zs107) (ag .u64 zs107) (by kernel_rfl) (by kernel_rfl) (loadv_seg (n := 5) (by kernel_rfl) (by kernel_rfl) (Seg.all _) (by simp only [List.length_append, nums_length, List.length_cons, List.length_nil] <;> omega))) ?_
        refine RunU.rd 6 (bm 13 127) 69 (.load 89 (.tmp 8)) (ag .u64 zs113) [0, 2, 1] (Reads.load_blk hU 2 b118 (0) 89 (nums .u64 zs113) (ag .u64 zs113) (by kernel_rfl) (by kernel_rfl) (loadv_seg (n := 5) (by kernel_rfl) (by kernel_rfl) (Seg.all _) (by simp only [List.length_append, nums_length, List.length_cons, List.length_nil] <;> omega))) ?_
        refine RunU.on (some 70) (.call { callee := .value (.func 90), args := #[.tmp 68, .tmp 69], argTypes := #[89, 89] }) 7 (bm 13 255) [0, 2, 1] (Step.cn 90 [ag .u64 zs107, ag .u64 zs113] [] [blk b 108 (nums .u64 us ++ (nums .u64 xs2 ++ (nums .u64 zs2 ++ (nums .u64 zs196 ++ nums .u64 zs3)))), blk b118 89 (nums .u64 zs113), blk b116 89 (nums .u64 zs107), blk b102 89 (nums .u64 zs99), blk b58 89 (nums .u64 zs53), blk b56 89 (nums .u64 zs50), blk b9 89 (nums .u64 zs4), blk b7 89 (nums .u64 zs1)] (f_Sub_spec zs107 ((((x3 - z3) % P) * ((x2 + z2) % P)) % P) zs113 ((((x3 + z3) % P) * ((x2 - z2) % P)) % P) (by assumption) (by assumption) (by assumption) (by assumption)) [] ?_)
        rintro _ _ ⟨zs199, rfl, rfl, hp200, hp201⟩
        refine orL ?_
        refine RunU.on (some 71) (.call { callee := .value (.func 91), args := #[.tmp 70], argTypes := #[89] }) 8 (bm 13 511) [0, 2, 1] (Step.cn 91 [ag .u64 zs199] [] [blk b 108 (nums .u64 us ++ (nums .u64 xs2 ++ (nums .u64 zs2 ++ (nums .u64 zs196 ++ nums .u64 zs3)))), blk b118 89 (nums .u64 zs113), blk b116 89 (nums .u64 zs107), blk b102 89 (nums .u64 zs99), blk b58 89 (nums .u64 zs53), blk b56 89 (nums .u64 zs50), blk b9 89 (nums .u64 zs4), blk b7 89 (nums .u64 zs1)] (f_Square_spec zs199 ((((((x3 - z3) % P) * ((x2 + z2) % P)) % P) - ((((x3 + z3) % P) * ((x2 - z2) % P)) % P)) % P) (by assumption) (by assumption)) [] ?_)
        rintro _ _ ⟨zs202, rfl, rfl, hp203, hp204⟩
        refine orL ?_
        refine RunU.on (some 72) (.call { callee := .value (.func 75), args := #[.tmp 67, .tmp 71], argTypes := #[89, 89] }) 9 (bm 13 1023) [] (Step.cn 75 [ag .u64 us, ag .u64 zs202] [] [blk b 108 (nums .u64 us ++ (nums .u64 xs2 ++ (nums .u64 zs2 ++ (nums .u64 zs196 ++ nums .u64 zs3)))), blk b118 89 (nums .u64 zs113), blk b116 89 (nums .u64 zs107), blk b102 89 (nums .u64 zs99), blk b58 89 (nums .u64 zs53), blk b56 89 (nums .u64 zs50), blk b9 89 (nums .u64 zs4), blk b7 89 (nums .u64 zs1)] (f_Mul_spec us u zs202 ((((((((x3 - z3) % P) * ((x2 + z2) % P)) % P) - ((((x3 + z3) % P) * ((x2 - z2) % P)) % P)) % P) * ((((((x3 - z3) % P) * ((x2 + z2) % P)) % P) - ((((x3 + z3) % P) * ((x2 - z2) % P)) % P)) % P)) % P) (by assumption) (by assumption) (by assumption) (by assumption)) [] ?_)
        rintro _ _ ⟨zs205, rfl, rfl, hp206, hp207⟩
        refine orR ?_
        refine RunU.sl hU 10 (bm 13 2047) 73 (pt b) ?_
        refine RunU.sl hU 11 (bm 13 4095) 74 (.pointer (some ⟨b, 20, none⟩)) ?_
        refine RunU.on none (.store 89 (.tmp 74) (.tmp 72)) 12 (bm 13 8191) [] (Step.store_seg hU 0 b (20) 108 (nums .u64 us ++ (nums .u64 xs2 ++ (nums .u64 zs2 ++ (nums .u64 zs196 ++ nums .u64 zs3)))) (nums .u64 us ++ (nums .u64 xs2 ++ (nums .u64 zs2 ++ (nums .u64 zs196 ++ nums .u64 zs205)))) (nums .u64 zs205) (ag .u64 zs205) (by kernel_rfl) (by kernel_rfl) (by kernel_rfl) 5 (by kernel_rfl) (by kernel_rfl) (by (simp only [List.length_append, nums_length, List.length_cons, List.length_nil, List.length_replicate]; omega)) (all_one_nums _ _) (show Put _ 20 _ _ from Put.skip (n := 5) (o := 15) (by rw [nums_length]; assumption) (Put.skip (n := 5) (o := 10) (by rw [nums_length]; assumption) (Put.skip (n := 5) (o := 5) (by rw [nums_length]; assumption) (Put.skip (n := 5) (o := 0) (by rw [nums_length]; assumption) (Put.all (by simp only [nums_length]; omega)))))) ?_)
        refine orR ?_
        refine RunU.ev [0, 4, 5, 6] [(0, pt b), (4, pt b56), (5, pt b58), (6, pt b102)] ?_
        refine RunU.dn ?_
        refine kseq_n ?_
        refine RunC.sr ?_
        refine RunR.sl hU [] 1 1 [0, 4, 5, 6, 75] [(0, pt b), (4, pt b56), (5, pt b58), (6, pt b102), (75, pt b)] 1 ?_
        refine RunR.st (some 76) (.load 89 (.tmp 4)) (Step.load_blk hU 5 b56 (0) 89 (nums .u64 zs50) (ag .u64 zs50) (by kernel_rfl) (by kernel_rfl) (loadv_seg (n := 5) (by kernel_rfl) (by kernel_rfl) (Seg.all _) (by simp only [List.length_append, nums_length, List.length_cons, List.length_nil] <;> omega)) (by kernel_rfl) ?_)
        refine RunR.st (some 77) (.load 89 (.tmp 5)) (Step.load_blk hU 4 b58 (0) 89 (nums .u64 zs53) (ag .u64 zs53) (by kernel_rfl) (by kernel_rfl) (loadv_seg (n := 5) (by kernel_rfl) (by kernel_rfl) (Seg.all _) (by simp only [List.length_append, nums_length, List.length_cons, List.length_nil] <;> omega)) (by kernel_rfl) ?_)
        refine RunR.st (some 78) (.call { callee := .value (.func 75), args := #[.tmp 76, .tmp 77], argTypes := #[89, 89] }) (Step.cn 75 [ag .u64 zs50, ag .u64 zs53] [] [blk b 108 (nums .u64 us ++ (nums .u64 xs2 ++ (nums .u64 zs2 ++ (nums .u64 zs196 ++ nums .u64 zs205)))), blk b118 89 (nums .u64 zs113), blk b116 89 (nums .u64 zs107), blk b102 89 (nums .u64 zs99), blk b58 89 (nums .u64 zs53), blk b56 89 (nums .u64 zs50), blk b9 89 (nums .u64 zs4), blk b7 89 (nums .u64 zs1)] (f_Mul_spec zs50 ((((x2 + z2) % P) * ((x2 + z2) % P)) % P) zs53 ((((x2 - z2) % P) * ((x2 - z2) % P)) % P) (by assumption) (by assumption) (by assumption) (by assumption)) [] ?_)
        rintro _ _ ⟨zs208, rfl, rfl, hp209, hp210⟩
        refine RunR.sl hU [] 2 6 [0, 4, 6, 78, 80] [(0, pt b), (4, pt b56), (6, pt b102), (78, ag .u64 zs208), (80, .pointer (some ⟨b, 5, none⟩))] 2 ?_
        refine RunR.st none (.store 89 (.tmp 80) (.tmp 78)) (Step.store_seg hU 0 b (5) 108 (nums .u64 us ++ (nums .u64 xs2 ++ (nums .u64 zs2 ++ (nums .u64 zs196 ++ nums .u64 zs205)))) (nums .u64 us ++ (nums .u64 zs208 ++ (nums .u64 zs2 ++ (nums .u64 zs196 ++ nums .u64 zs205)))) (nums .u64 zs208) (ag .u64 zs208) (by kernel_rfl) (by kernel_rfl) (by kernel_rfl) 5 (by kernel_rfl) (by kernel_rfl) (by (simp only [List.length_append, nums_length, List.length_cons, List.length_nil, List.length_replicate]; omega)) (all_one_nums _ _) (show Put _ 5 _ _ from Put.skip (n := 5) (o := 0) (by rw [nums_length]; assumption) (Put.here _ (by simp only [nums_length]; omega))) ?_)
        refine RunR.nn ?_
        refine RunC.regionU hU 10 [blk b102 89 (nums .u64 zs99), blk b56 89 (nums .u64 zs50)] [3, 5] [6, 7, 8, 9] (bm 10 0) (by kernel_rfl) (by kernel_rfl) (by kernel_rfl) ?_
        refine RunU.sl hU 0 (bm 10 1) 81 (pt b) ?_
        refine RunU.rd 1 (bm 10 3) 82 (.load 89 (.tmp 6)) (ag .u64 zs99) [3, 5] (Reads.load_blk hU 0 b102 (0) 89 (nums .u64 zs99) (ag .u64 zs99) (by kernel_rfl) (by kernel_rfl) (loadv_seg (n := 5) (by kernel_rfl) (by kernel_rfl) (Seg.all _) (by simp only [List.length_append, nums_length, List.length_cons, List.length_nil] <;> omega))) ?_
        refine RunU.rd 2 (bm 10 7) 83 (.load 89 (.tmp 4)) (ag .u64 zs50) [3, 5] (Reads.load_blk hU 1 b56 (0) 89 (nums .u64 zs50) (ag .u64 zs50) (by kernel_rfl) (by kernel_rfl) (loadv_seg (n := 5) (by kernel_rfl) (by kernel_rfl) (Seg.all _) (by simp only [List.length_append, nums_length, List.length_cons, List.length_nil] <;> omega))) ?_
        refine RunU.rd 3 (bm 10 15) 84 (.load 89 (.tmp 6)) (ag .u64 zs99) [3, 5] (Reads.load_blk hU 0 b102 (0) 89 (nums .u64 zs99) (ag .u64 zs99) (by kernel_rfl) (by kernel_rfl) (loadv_seg (n := 5) (by kernel_rfl) (by kernel_rfl) (Seg.all _) (by simp only [List.length_append, nums_length, List.length_cons, List.length_nil] <;> omega))) ?_
        refine RunU.on (some 85) (.call { callee := .value (.func 92), args := #[.tmp 84, .const (.int .u32 121665)], argTypes := #[89, 96] }) 4 (bm 10 31) [3, 5] (Step.cn 92 [ag .u64 zs99, .int .u32 121665] [] [blk b 108 (nums .u64 us ++ (nums .u64 zs208 ++ (nums .u64 zs2 ++ (nums .u64 zs196 ++ nums .u64 zs205)))), blk b118 89 (nums .u64 zs113), blk b116 89 (nums .u64 zs107), blk b102 89 (nums .u64 zs99), blk b58 89 (nums .u64 zs53), blk b56 89 (nums .u64 zs50), blk b9 89 (nums .u64 zs4), blk b7 89 (nums .u64 zs1)] (f_Times_spec zs99 ((((((x2 + z2) % P) * ((x2 + z2) % P)) % P) - ((((x2 - z2) % P) * ((x2 - z2) % P)) % P)) % P) 121665 (by assumption) (by assumption) (by (refine ⟨?_, ?_⟩ <;> omega))) [] ?_)
        rintro _ _ ⟨zs211, rfl, rfl, hp212, hp213⟩
        refine orL ?_
        refine RunU.on (some 86) (.call { callee := .value (.func 89), args := #[.tmp 83, .tmp 85], argTypes := #[89, 89] }) 5 (bm 10 63) [3, 5] (Step.cn 89 [ag .u64 zs50, ag .u64 zs211] [] [blk b 108 (nums .u64 us ++ (nums .u64 zs208 ++ (nums .u64 zs2 ++ (nums .u64 zs196 ++ nums .u64 zs205)))), blk b118 89 (nums .u64 zs113), blk b116 89 (nums .u64 zs107), blk b102 89 (nums .u64 zs99), blk b58 89 (nums .u64 zs53), blk b56 89 (nums .u64 zs50), blk b9 89 (nums .u64 zs4), blk b7 89 (nums .u64 zs1)] (f_Add_spec zs50 ((((x2 + z2) % P) * ((x2 + z2) % P)) % P) zs211 ((((((((x2 + z2) % P) * ((x2 + z2) % P)) % P) - ((((x2 - z2) % P) * ((x2 - z2) % P)) % P)) % P) * 121665) % P) (by assumption) (by assumption) (by assumption) (by assumption)) [] ?_)
        rintro _ _ ⟨zs214, rfl, rfl, hp215, hp216⟩
        refine orL ?_
        refine RunU.on (some 87) (.call { callee := .value (.func 75), args := #[.tmp 82, .tmp 86], argTypes := #[89, 89] }) 6 (bm 10 127) [] (Step.cn 75 [ag .u64 zs99, ag .u64 zs214] [] [blk b 108 (nums .u64 us ++ (nums .u64 zs208 ++ (nums .u64 zs2 ++ (nums .u64 zs196 ++ nums .u64 zs205)))), blk b118 89 (nums .u64 zs113), blk b116 89 (nums .u64 zs107), blk b102 89 (nums .u64 zs99), blk b58 89 (nums .u64 zs53), blk b56 89 (nums .u64 zs50), blk b9 89 (nums .u64 zs4), blk b7 89 (nums .u64 zs1)] (f_Mul_spec zs99 ((((((x2 + z2) % P) * ((x2 + z2) % P)) % P) - ((((x2 - z2) % P) * ((x2 - z2) % P)) % P)) % P) zs214 ((((((x2 + z2) % P) * ((x2 + z2) % P)) % P) + ((((((((x2 + z2) % P) * ((x2 + z2) % P)) % P) - ((((x2 - z2) % P) * ((x2 - z2) % P)) % P)) % P) * 121665) % P)) % P) (by assumption) (by assumption) (by assumption) (by assumption)) [] ?_)
        rintro _ _ ⟨zs217, rfl, rfl, hp218, hp219⟩
        refine orR ?_
        refine RunU.sl hU 7 (bm 10 255) 88 (pt b) ?_
        refine RunU.sl hU 8 (bm 10 511) 89 (.pointer (some ⟨b, 10, none⟩)) ?_
        refine RunU.on none (.store 89 (.tmp 89) (.tmp 87)) 9 (bm 10 1023) [] (Step.store_seg hU 0 b (10) 108 (nums .u64 us ++ (nums .u64 zs208 ++ (nums .u64 zs2 ++ (nums .u64 zs196 ++ nums .u64 zs205)))) (nums .u64 us ++ (nums .u64 zs208 ++ (nums .u64 zs217 ++ (nums .u64 zs196 ++ nums .u64 zs205)))) (nums .u64 zs217) (ag .u64 zs217) (by kernel_rfl) (by kernel_rfl) (by kernel_rfl) 5 (by kernel_rfl) (by kernel_rfl) (by (simp only [List.length_append, nums_length, List.length_cons, List.length_nil, List.length_replicate]; omega)) (all_one_nums _ _) (show Put _ 10 _ _ from Put.skip (n := 5) (o := 5) (by rw [nums_length]; assumption) (Put.skip (n := 5) (o := 0) (by rw [nums_length]; assumption) (Put.here _ (by simp only [nums_length]; omega)))) ?_)
        refine orR ?_
        refine RunU.ev [] [] ?_
        refine RunU.dn ?_
        refine kret_n [] [0] [blk b 108 (nums .u64 us ++ (nums .u64 zs208 ++ (nums .u64 zs217 ++ (nums .u64 zs196 ++ nums .u64 zs205))))] trivial (by kernel_rfl) rfl ⟨zs208, zs217, zs196, zs205, rfl, rfl, (by simp only [nx2, nz2, nx3, nz3, ak, bk, ek, dk, ck]; assumption), (by simp only [nx2, nz2, nx3, nz3, ak, bk, ek, dk, ck]; simp only [Int.mul_comm 121665]; assumption), (by simp only [nx2, nz2, nx3, nz3, ak, bk, ek, dk, ck]; assumption), (by simp only [nx2, nz2, nx3, nz3, ak, bk, ek, dk, ck]; assumption), (by assumption), (by assumption), (by assumption), (by assumption)⟩
      have hD191_1 : ∀ (zs107 : List Int) (zs113 : List Int) (b116 : Nat), El zs107 ((((x3 - z3) % P) * ((x2 + z2) % P)) % P) → zs107.length = 5 → El zs113 ((((x3 + z3) % P) * ((x2 - z2) % P)) % P) → zs113.length = 5 → R_ 3 (bm 26 8388607) [(0, pt b), (4, pt b56), (5, pt b58), (6, pt b102), (7, pt b116), (44, ag .u64 zs107), (55, ag .u64 zs113)] [blk b116 89 (nums .u64 (List.replicate 5 (0 : Int))), blk b102 89 (nums .u64 zs99), blk b58 89 (nums .u64 zs53), blk b56 89 (nums .u64 zs50), blk b9 89 (nums .u64 zs4), blk b7 89 (nums .u64 zs1), blk b 108 (nums .u64 us ++ (nums .u64 xs2 ++ (nums .u64 zs2 ++ (nums .u64 xs3 ++ nums .u64 zs3))))] := by
        intro zs107 zs113 b116 hp108 hp109 hp114 hp115
        rw [hR_]
        refine RunU.any [23] (by kernel_rfl) rfl (all_cons (i := 23) ?_ all_nil)
        · skip
          refine ⟨(some 8), (.alloc 89), (bm 26 16777215), [7, 6, 5], (by kernel_rfl), (by kernel_rfl), ?_⟩
          refine (Step.al hU 5 40 z5 (fun b220 => ?_))
          have hl221 : (List.replicate 5 (0 : Int)).length = 5 := List.length_replicate
          refine orL ?_
          refine RunU.turn [blk b220 89 (nums .u64 (List.replicate 5 (0 : Int))), blk b116 89 (nums .u64 (List.replicate 5 (0 : Int))), blk b102 89 (nums .u64 zs99), blk b58 89 (nums .u64 zs53), blk b56 89 (nums .u64 zs50), blk b9 89 (nums .u64 zs4), blk b7 89 (nums .u64 zs1), blk b 108 (nums .u64 us ++ (nums .u64 xs2 ++ (nums .u64 zs2 ++ (nums .u64 xs3 ++ nums .u64 zs3))))] (fun _ _ w hs => hs.pulls2 [0, 0, 0, 0, 0, 0, 0, 0] _ (by kernel_rfl)) ?_
          refine RunU.ev [0, 4, 5, 6, 7, 8, 44, 55] [(0, pt b), (4, pt b56), (5, pt b58), (6, pt b102), (7, pt b116), (8, pt b220), (44, ag .u64 zs107), (55, ag .u64 zs113)] ?_
          have q_ := hD191_0 zs107 zs113 b116 b220 (by assumption) (by assumption) (by assumption) (by assumption)
          rw [hR_] at q_
          exact q_
      have hD191_2 : ∀ (zs107 : List Int) (zs113 : List Int) (b120 : Nat), El zs107 ((((x3 - z3) % P) * ((x2 + z2) % P)) % P) → zs107.length = 5 → El zs113 ((((x3 + z3) % P) * ((x2 - z2) % P)) % P) → zs113.length = 5 → R_ 3 (bm 26 12582911) [(0, pt b), (4, pt b56), (5, pt b58), (6, pt b102), (8, pt b120), (44, ag .u64 zs107), (55, ag .u64 zs113)] [blk b120 89 (nums .u64 (List.replicate 5 (0 : Int))), blk b102 89 (nums .u64 zs99), blk b58 89 (nums .u64 zs53), blk b56 89 (nums .u64 zs50), blk b9 89 (nums .u64 zs4), blk b7 89 (nums .u64 zs1), blk b 108 (nums .u64 us ++ (nums .u64 xs2 ++ (nums .u64 zs2 ++ (nums .u64 xs3 ++ nums .u64 zs3))))] := by
        intro zs107 zs113 b120 hp108 hp109 hp114 hp115
        rw [hR_]
        refine RunU.any [22] (by kernel_rfl) rfl (all_cons (i := 22) ?_ all_nil)
        · skip
          refine ⟨(some 7), (.alloc 89), (bm 26 16777215), [7, 6, 5], (by kernel_rfl), (by kernel_rfl), ?_⟩
          refine (Step.al hU 5 40 z5 (fun b222 => ?_))
          have hl223 : (List.replicate 5 (0 : Int)).length = 5 := List.length_replicate
          refine orL ?_
          refine RunU.turn [blk b120 89 (nums .u64 (List.replicate 5 (0 : Int))), blk b222 89 (nums .u64 (List.replicate 5 (0 : Int))), blk b102 89 (nums .u64 zs99), blk b58 89 (nums .u64 zs53), blk b56 89 (nums .u64 zs50), blk b9 89 (nums .u64 zs4), blk b7 89 (nums .u64 zs1), blk b 108 (nums .u64 us ++ (nums .u64 xs2 ++ (nums .u64 zs2 ++ (nums .u64 xs3 ++ nums .u64 zs3))))] (fun _ _ w hs => hs.pulls2 [1, 0, 0, 0, 0, 0, 0, 0] _ (by kernel_rfl)) ?_
          refine RunU.ev [0, 4, 5, 6, 7, 8, 44, 55] [(0, pt b), (4, pt b56), (5, pt b58), (6, pt b102), (7, pt b222), (8, pt b120), (44, ag .u64 zs107), (55, ag .u64 zs113)] ?_
          have q_ := hD191_0 zs107 zs113 b222 b120 (by assumption) (by assumption) (by assumption) (by assumption)
          rw [hR_] at q_
          exact q_
      have hD191_3 : ∀ (zs107 : List Int) (zs110 : List Int) (b124 : Nat) (b129 : Nat), El zs107 ((((x3 - z3) % P) * ((x2 + z2) % P)) % P) → zs107.length = 5 → El zs110 ((x3 + z3) % P) → zs110.length = 5 → R_ 3 (bm 26 14680063) [(0, pt b), (4, pt b56), (5, pt b58), (6, pt b102), (7, pt b124), (8, pt b129), (44, ag .u64 zs107), (53, ag .u64 zs110), (54, ag .u64 zs4)] [blk b129 89 (nums .u64 (List.replicate 5 (0 : Int))), blk b124 89 (nums .u64 (List.replicate 5 (0 : Int))), blk b102 89 (nums .u64 zs99), blk b58 89 (nums .u64 zs53), blk b56 89 (nums .u64 zs50), blk b9 89 (nums .u64 zs4), blk b7 89 (nums .u64 zs1), blk b 108 (nums .u64 us ++ (nums .u64 xs2 ++ (nums .u64 zs2 ++ (nums .u64 xs3 ++ nums .u64 zs3))))] := by
        intro zs107 zs110 b124 b129 hp108 hp109 hp111 hp112
        rw [hR_]
        refine RunU.any [21] (by kernel_rfl) rfl (all_cons (i := 21) ?_ all_nil)
        · skip
          refine ⟨(some 55), (.call { callee := .value (.func 75), args := #[.tmp 53, .tmp 54], argTypes := #[89, 89] }), (bm 26 16777215), [], (by kernel_rfl), (by kernel_rfl), ?_⟩
          refine (Step.cn 75 [ag .u64 zs110, ag .u64 zs4] [] [blk b129 89 (nums .u64 (List.replicate 5 (0 : Int))), blk b124 89 (nums .u64 (List.replicate 5 (0 : Int))), blk b102 89 (nums .u64 zs99), blk b58 89 (nums .u64 zs53), blk b56 89 (nums .u64 zs50), blk b9 89 (nums .u64 zs4), blk b7 89 (nums .u64 zs1), blk b 108 (nums .u64 us ++ (nums .u64 xs2 ++ (nums .u64 zs2 ++ (nums .u64 xs3 ++ nums .u64 zs3))))] (f_Mul_spec zs110 ((x3 + z3) % P) zs4 ((x2 - z2) % P) (by assumption) (by assumption) (by assumption) (by assumption)) [] ?_)
          rintro _ _ ⟨zs224, rfl, rfl, hp225, hp226⟩
          refine orR ?_
          refine RunU.turn [blk b129 89 (nums .u64 (List.replicate 5 (0 : Int))), blk b124 89 (nums .u64 (List.replicate 5 (0 : Int))), blk b102 89 (nums .u64 zs99), blk b58 89 (nums .u64 zs53), blk b56 89 (nums .u64 zs50), blk b9 89 (nums .u64 zs4), blk b7 89 (nums .u64 zs1), blk b 108 (nums .u64 us ++ (nums .u64 xs2 ++ (nums .u64 zs2 ++ (nums .u64 xs3 ++ nums .u64 zs3))))] (fun _ _ w hs => hs.pulls2 [0, 0, 0, 0, 0, 0, 0, 0] _ (by kernel_rfl)) ?_
          refine RunU.ev [0, 4, 5, 6, 7, 8, 44, 55] [(0, pt b), (4, pt b56), (5, pt b58), (6, pt b102), (7, pt b124), (8, pt b129), (44, ag .u64 zs107), (55, ag .u64 zs224)] ?_
          have q_ := hD191_0 zs107 zs224 b124 b129 (by assumption) (by assumption) (by assumption) (by assumption)
          rw [hR_] at q_
          exact q_
      have hD191_4 : ∀ (zs107 : List Int) (zs113 : List Int), El zs107 ((((x3 - z3) % P) * ((x2 + z2) % P)) % P) → zs107.length = 5 → El zs113 ((((x3 + z3) % P) * ((x2 - z2) % P)) % P) → zs113.length = 5 → R_ 4 (bm 26 4194303) [(0, pt b), (4, pt b56), (5, pt b58), (6, pt b102), (44, ag .u64 zs107), (55, ag .u64 zs113)] [blk b102 89 (nums .u64 zs99), blk b58 89 (nums .u64 zs53), blk b56 89 (nums .u64 zs50), blk b9 89 (nums .u64 zs4), blk b7 89 (nums .u64 zs1), blk b 108 (nums .u64 us ++ (nums .u64 xs2 ++ (nums .u64 zs2 ++ (nums .u64 xs3 ++ nums .u64 zs3))))] := by
        intro zs107 zs113 hp108 hp109 hp114 hp115
        rw [hR_]
        refine RunU.any [22, 23] (by kernel_rfl) rfl (all_cons (i := 22) ?_ (all_cons (i := 23) ?_ all_nil))
        · skip
          refine ⟨(some 7), (.alloc 89), (bm 26 8388607), [6, 5, 4], (by kernel_rfl), (by kernel_rfl), ?_⟩
          refine (Step.al hU 5 40 z5 (fun b227 => ?_))
          have hl228 : (List.replicate 5 (0 : Int)).length = 5 := List.length_replicate
          refine orL ?_
          refine RunU.turn [blk b227 89 (nums .u64 (List.replicate 5 (0 : Int))), blk b102 89 (nums .u64 zs99), blk b58 89 (nums .u64 zs53), blk b56 89 (nums .u64 zs50), blk b9 89 (nums .u64 zs4), blk b7 89 (nums .u64 zs1), blk b 108 (nums .u64 us ++ (nums .u64 xs2 ++ (nums .u64 zs2 ++ (nums .u64 xs3 ++ nums .u64 zs3))))] (fun _ _ w hs => hs.pulls2 [0, 0, 0, 0, 0, 0, 0] _ (by kernel_rfl)) ?_
          refine RunU.ev [0, 4, 5, 6, 7, 44, 55] [(0, pt b), (4, pt b56), (5, pt b58), (6, pt b102), (7, pt b227), (44, ag .u64 zs107), (55, ag .u64 zs113)] ?_
          have q_ := hD191_1 zs107 zs113 b227 (by assumption) (by assumption) (by assumption) (by assumption)
          rw [hR_] at q_
          exact q_
        · skip
          refine ⟨(some 8), (.alloc 89), (bm 26 12582911), [6, 5, 4], (by kernel_rfl), (by kernel_rfl), ?_⟩
          refine (Step.al hU 5 40 z5 (fun b229 => ?_))
          have hl230 : (List.replicate 5 (0 : Int)).length = 5 := List.length_replicate
          refine orL ?_
          refine RunU.turn [blk b229 89 (nums .u64 (List.replicate 5 (0 : Int))), blk b102 89 (nums .u64 zs99), blk b58 89 (nums .u64 zs53), blk b56 89 (nums .u64 zs50), blk b9 89 (nums .u64 zs4), blk b7 89 (nums .u64 zs1), blk b 108 (nums .u64 us ++ (nums .u64 xs2 ++ (nums .u64 zs2 ++ (nums .u64 xs3 ++ nums .u64 zs3))))] (fun _ _ w hs => hs.pulls2 [0, 0, 0, 0, 0, 0, 0] _ (by kernel_rfl)) ?_
          refine RunU.ev [0, 4, 5, 6, 8, 44, 55] [(0, pt b), (4, pt b56), (5, pt b58), (6, pt b102), (8, pt b229), (44, ag .u64 zs107), (55, ag .u64 zs113)] ?_
          have q_ := hD191_2 zs107 zs113 b229 (by assumption) (by assumption) (by assumption) (by assumption)
          rw [hR_] at q_
          exact q_
      have hD191_5 : ∀ (zs107 : List Int) (zs110 : List Int) (b124 : Nat), El zs107 ((((x3 - z3) % P) * ((x2 + z2) % P)) % P) → zs107.length = 5 → El zs110 ((x3 + z3) % P) → zs110.length = 5 → R_ 4 (bm 26 6291455) [(0, pt b), (4, pt b56), (5, pt b58), (6, pt b102), (7, pt b124), (44, ag .u64 zs107), (53, ag .u64 zs110), (54, ag .u64 zs4)] [blk b124 89 (nums .u64 (List.replicate 5 (0 : Int))), blk b102 89 (nums .u64 zs99), blk b58 89 (nums .u64 zs53), blk b56 89 (nums .u64 zs50), blk b9 89 (nums .u64 zs4), blk b7 89 (nums .u64 zs1), blk b 108 (nums .u64 us ++ (nums .u64 xs2 ++ (nums .u64 zs2 ++ (nums .u64 xs3 ++ nums .u64 zs3))))] := by
        intro zs107 zs110 b124 hp108 hp109 hp111 hp112
        rw [hR_]
        refine RunU.any [21, 23] (by kernel_rfl) rfl (all_cons (i := 21) ?_ (all_cons (i := 23) ?_ all_nil))
        · skip
          refine ⟨(some 55), (.call { callee := .value (.func 75), args := #[.tmp 53, .tmp 54], argTypes := #[89, 89] }), (bm 26 8388607), [], (by kernel_rfl), (by kernel_rfl), ?_⟩
          refine (Step.cn 75 [ag .u64 zs110, ag .u64 zs4] [] [blk b124 89 (nums .u64 (List.replicate 5 (0 : Int))), blk b102 89 (nums .u64 zs99), blk b58 89 (nums .u64 zs53), blk b56 89 (nums .u64 zs50), blk b9 89 (nums .u64 zs4), blk b7 89 (nums .u64 zs1), blk b 108 (nums .u64 us ++ (nums .u64 xs2 ++ (nums .u64 zs2 ++ (nums .u64 xs3 ++ nums .u64 zs3))))] (f_Mul_spec zs110 ((x3 + z3) % P) zs4 ((x2 - z2) % P) (by assumption) (by assumption) (by assumption) (by assumption)) [] ?_)
          rintro _ _ ⟨zs231, rfl, rfl, hp232, hp233⟩
          refine orR ?_
          refine RunU.turn [blk b124 89 (nums .u64 (List.replicate 5 (0 : Int))), blk b102 89 (nums .u64 zs99), blk b58 89 (nums .u64 zs53), blk b56 89 (nums .u64 zs50), blk b9 89 (nums .u64 zs4), blk b7 89 (nums .u64 zs1), blk b 108 (nums .u64 us ++ (nums .u64 xs2 ++ (nums .u64 zs2 ++ (nums .u64 xs3 ++ nums .u64 zs3))))] (fun _ _ w hs => hs.pulls2 [0, 0, 0, 0, 0, 0, 0] _ (by kernel_rfl)) ?_
          refine RunU.ev [0, 4, 5, 6, 7, 44, 55] [(0, pt b), (4, pt b56), (5, pt b58), (6, pt b102), (7, pt b124), (44, ag .u64 zs107), (55, ag .u64 zs231)] ?_
          have q_ := hD191_1 zs107 zs231 b124 (by assumption) (by assumption) (by assumption) (by assumption)
          rw [hR_] at q_
          exact q_
        · skip
          refine ⟨(some 8), (.alloc 89), (bm 26 14680063), [7, 6, 5], (by kernel_rfl), (by kernel_rfl), ?_⟩
          refine (Step.al hU 5 40 z5 (fun b234 => ?_))
          have hl235 : (List.replicate 5 (0 : Int)).length = 5 := List.length_replicate
          refine orL ?_
          refine RunU.turn [blk b234 89 (nums .u64 (List.replicate 5 (0 : Int))), blk b124 89 (nums .u64 (List.replicate 5 (0 : Int))), blk b102 89 (nums .u64 zs99), blk b58 89 (nums .u64 zs53), blk b56 89 (nums .u64 zs50), blk b9 89 (nums .u64 zs4), blk b7 89 (nums .u64 zs1), blk b 108 (nums .u64 us ++ (nums .u64 xs2 ++ (nums .u64 zs2 ++ (nums .u64 xs3 ++ nums .u64 zs3))))] (fun _ _ w hs => hs.pulls2 [0, 0, 0, 0, 0, 0, 0, 0] _ (by kernel_rfl)) ?_
          refine RunU.ev [0, 4, 5, 6, 7, 8, 44, 53, 54] [(0, pt b), (4, pt b56), (5, pt b58), (6, pt b102), (7, pt b124), (8, pt b234), (44, ag .u64 zs107), (53, ag .u64 zs110), (54, ag .u64 zs4)] ?_
          have q_ := hD191_3 zs107 zs110 b124 b234 (by assumption) (by assumption) (by assumption) (by assumption)
          rw [hR_] at q_
          exact q_
      have hD191_6 : ∀ (zs107 : List Int) (zs110 : List Int) (b134 : Nat), El zs107 ((((x3 - z3) % P) * ((x2 + z2) % P)) % P) → zs107.length = 5 → El zs110 ((x3 + z3) % P) → zs110.length = 5 → R_ 4 (bm 26 10485759) [(0, pt b), (4, pt b56), (5, pt b58), (6, pt b102), (8, pt b134), (44, ag .u64 zs107), (53, ag .u64 zs110), (54, ag .u64 zs4)] [blk b134 89 (nums .u64 (List.replicate 5 (0 : Int))), blk b102 89 (nums .u64 zs99), blk b58 89 (nums .u64 zs53), blk b56 89 (nums .u64 zs50), blk b9 89 (nums .u64 zs4), blk b7 89 (nums .u64 zs1), blk b 108 (nums .u64 us ++ (nums .u64 xs2 ++ (nums .u64 zs2 ++ (nums .u64 xs3 ++ nums .u64 zs3))))] := by
        intro zs107 zs110 b134 hp108 hp109 hp111 hp112
        rw [hR_]
        refine RunU.any [21, 22] (by kernel_rfl) rfl (all_cons (i := 21) ?_ (all_cons (i := 22) ?_ all_nil))
        · skip
          refine ⟨(some 55), (.call { callee := .value (.func 75), args := #[.tmp 53, .tmp 54], argTypes := #[89, 89] }), (bm 26 12582911), [], (by kernel_rfl), (by kernel_rfl), ?_⟩
          refine (Step.cn 75 [ag .u64 zs110, ag .u64 zs4] [] [blk b134 89 (nums .u64 (List.replicate 5 (0 : Int))), blk b102 89 (nums .u64 zs99), blk b58 89 (nums .u64 zs53), blk b56 89 (nums .u64 zs50), blk b9 89 (nums .u64 zs4), blk b7 89 (nums .u64 zs1), blk b 108 (nums .u64 us ++ (nums .u64 xs2 ++ (nums .u64 zs2 ++ (nums .u64 xs3 ++ nums .u64 zs3))))] (f_Mul_spec zs110 ((x3 + z3) % P) zs4 ((x2 - z2) % P) (by assumption) (by assumption) (by assumption) (by assumption)) [] ?_)
          rintro _ _ ⟨zs236, rfl, rfl, hp237, hp238⟩
          refine orR ?_
          refine RunU.turn [blk b134 89 (nums .u64 (List.replicate 5 (0 : Int))), blk b102 89 (nums .u64 zs99), blk b58 89 (nums .u64 zs53), blk b56 89 (nums .u64 zs50), blk b9 89 (nums .u64 zs4), blk b7 89 (nums .u64 zs1), blk b 108 (nums .u64 us ++ (nums .u64 xs2 ++ (nums .u64 zs2 ++ (nums .u64 xs3 ++ nums .u64 zs3))))] (fun _ _ w hs => hs.pulls2 [0, 0, 0, 0, 0, 0, 0] _ (by kernel_rfl)) ?_
          refine RunU.ev [0, 4, 5, 6, 8, 44, 55] [(0, pt b), (4, pt b56), (5, pt b58), (6, pt b102), (8, pt b134), (44, ag .u64 zs107), (55, ag .u64 zs236)] ?_
          have q_ := hD191_2 zs107 zs236 b134 (by assumption) (by assumption) (by assumption) (by assumption)
          rw [hR_] at q_
          exact q_
        · skip
          refine ⟨(some 7), (.alloc 89), (bm 26 14680063), [7, 6, 5], (by kernel_rfl), (by kernel_rfl), ?_⟩
          refine (Step.al hU 5 40 z5 (fun b239 => ?_))
          have hl240 : (List.replicate 5 (0 : Int)).length = 5 := List.length_replicate
          refine orL ?_
          refine RunU.turn [blk b134 89 (nums .u64 (List.replicate 5 (0 : Int))), blk b239 89 (nums .u64 (List.replicate 5 (0 : Int))), blk b102 89 (nums .u64 zs99), blk b58 89 (nums .u64 zs53), blk b56 89 (nums .u64 zs50), blk b9 89 (nums .u64 zs4), blk b7 89 (nums .u64 zs1), blk b 108 (nums .u64 us ++ (nums .u64 xs2 ++ (nums .u64 zs2 ++ (nums .u64 xs3 ++ nums .u64 zs3))))] (fun _ _ w hs => hs.pulls2 [1, 0, 0, 0, 0, 0, 0, 0] _ (by kernel_rfl)) ?_
          refine RunU.ev [0, 4, 5, 6, 7, 8, 44, 53, 54] [(0, pt b), (4, pt b56), (5, pt b58), (6, pt b102), (7, pt b239), (8, pt b134), (44, ag .u64 zs107), (53, ag .u64 zs110), (54, ag .u64 zs4)] ?_
          have q_ := hD191_3 zs107 zs110 b239 b134 (by assumption) (by assumption) (by assumption) (by assumption)
          rw [hR_] at q_
          exact q_
      have hD191_7 : ∀ (zs107 : List Int) (b141 : Nat) (b146 : Nat), El zs107 ((((x3 - z3) % P) * ((x2 + z2) % P)) % P) → zs107.length = 5 → R_ 4 (bm 26 14155775) [(0, pt b), (4, pt b56), (5, pt b58), (6, pt b102), (7, pt b141), (8, pt b146), (44, ag .u64 zs107), (48, ag .u64 xs3), (52, ag .u64 zs3), (54, ag .u64 zs4)] [blk b146 89 (nums .u64 (List.replicate 5 (0 : Int))), blk b141 89 (nums .u64 (List.replicate 5 (0 : Int))), blk b102 89 (nums .u64 zs99), blk b58 89 (nums .u64 zs53), blk b56 89 (nums .u64 zs50), blk b9 89 (nums .u64 zs4), blk b7 89 (nums .u64 zs1), blk b 108 (nums .u64 us ++ (nums .u64 xs2 ++ (nums .u64 zs2 ++ (nums .u64 xs3 ++ nums .u64 zs3))))] := by
        intro zs107 b141 b146 hp108 hp109
        rw [hR_]
        refine RunU.any [19] (by kernel_rfl) rfl (all_cons (i := 19) ?_ all_nil)
        · skip
          refine ⟨(some 53), (.call { callee := .value (.func 89), args := #[.tmp 48, .tmp 52], argTypes := #[89, 89] }), (bm 26 14680063), [7, 6, 5], (by kernel_rfl), (by kernel_rfl), ?_⟩
          refine (Step.cn 89 [ag .u64 xs3, ag .u64 zs3] [] [blk b146 89 (nums .u64 (List.replicate 5 (0 : Int))), blk b141 89 (nums .u64 (List.replicate 5 (0 : Int))), blk b102 89 (nums .u64 zs99), blk b58 89 (nums .u64 zs53), blk b56 89 (nums .u64 zs50), blk b9 89 (nums .u64 zs4), blk b7 89 (nums .u64 zs1), blk b 108 (nums .u64 us ++ (nums .u64 xs2 ++ (nums .u64 zs2 ++ (nums .u64 xs3 ++ nums .u64 zs3))))] (f_Add_spec xs3 x3 zs3 z3 (by assumption) (by assumption) (by assumption) (by assumption)) [] ?_)
          rintro _ _ ⟨zs241, rfl, rfl, hp242, hp243⟩
          refine orL ?_
          refine RunU.turn [blk b146 89 (nums .u64 (List.replicate 5 (0 : Int))), blk b141 89 (nums .u64 (List.replicate 5 (0 : Int))), blk b102 89 (nums .u64 zs99), blk b58 89 (nums .u64 zs53), blk b56 89 (nums .u64 zs50), blk b9 89 (nums .u64 zs4), blk b7 89 (nums .u64 zs1), blk b 108 (nums .u64 us ++ (nums .u64 xs2 ++ (nums .u64 zs2 ++ (nums .u64 xs3 ++ nums .u64 zs3))))] (fun _ _ w hs => hs.pulls2 [0, 0, 0, 0, 0, 0, 0, 0] _ (by kernel_rfl)) ?_
          refine RunU.ev [0, 4, 5, 6, 7, 8, 44, 53, 54] [(0, pt b), (4, pt b56), (5, pt b58), (6, pt b102), (7, pt b141), (8, pt b146), (44, ag .u64 zs107), (53, ag .u64 zs241), (54, ag .u64 zs4)] ?_
          have q_ := hD191_3 zs107 zs241 b141 b146 (by assumption) (by assumption) (by assumption) (by assumption)
          rw [hR_] at q_
          exact q_
      have hD191_8 : ∀ (zs107 : List Int) (zs110 : List Int), El zs107 ((((x3 - z3) % P) * ((x2 + z2) % P)) % P) → zs107.length = 5 → El zs110 ((x3 + z3) % P) → zs110.length = 5 → R_ 5 (bm 26 2097151) [(0, pt b), (4, pt b56), (5, pt b58), (6, pt b102), (44, ag .u64 zs107), (53, ag .u64 zs110), (54, ag .u64 zs4)] [blk b102 89 (nums .u64 zs99), blk b58 89 (nums .u64 zs53), blk b56 89 (nums .u64 zs50), blk b9 89 (nums .u64 zs4), blk b7 89 (nums .u64 zs1), blk b 108 (nums .u64 us ++ (nums .u64 xs2 ++ (nums .u64 zs2 ++ (nums .u64 xs3 ++ nums .u64 zs3))))] := by
        intro zs107 zs110 hp108 hp109 hp111 hp112
        rw [hR_]
        refine RunU.any [21, 22, 23] (by kernel_rfl) rfl (all_cons (i := 21) ?_ (all_cons (i := 22) ?_ (all_cons (i := 23) ?_ all_nil)))
        · skip
          refine ⟨(some 55), (.call { callee := .value (.func 75), args := #[.tmp 53, .tmp 54], argTypes := #[89, 89] }), (bm 26 4194303), [], (by kernel_rfl), (by kernel_rfl), ?_⟩
          refine (Step.cn 75 [ag .u64 zs110, ag .u64 zs4] [] [blk b102 89 (nums .u64 zs99), blk b58 89 (nums .u64 zs53), blk b56 89 (nums .u64 zs50), blk b9 89 (nums .u64 zs4), blk b7 89 (nums .u64 zs1), blk b 108 (nums .u64 us ++ (nums .u64 xs2 ++ (nums .u64 zs2 ++ (nums .u64 xs3 ++ nums .u64 zs3))))] (f_Mul_spec zs110 ((x3 + z3) % P) zs4 ((x2 - z2) % P) (by assumption) (by assumption) (by assumption) (by assumption)) [] ?_)
          rintro _ _ ⟨zs244, rfl, rfl, hp245, hp246⟩
          refine orR ?_
          refine RunU.turn [blk b102 89 (nums .u64 zs99), blk b58 89 (nums .u64 zs53), blk b56 89 (nums .u64 zs50), blk b9 89 (nums .u64 zs4), blk b7 89 (nums .u64 zs1), blk b 108 (nums .u64 us ++ (nums .u64 xs2 ++ (nums .u64 zs2 ++ (nums .u64 xs3 ++ nums .u64 zs3))))] (fun _ _ w hs => hs.pulls2 [0, 0, 0, 0, 0, 0] _ (by kernel_rfl)) ?_
          refine RunU.ev [0, 4, 5, 6, 44, 55] [(0, pt b), (4, pt b56), (5, pt b58), (6, pt b102), (44, ag .u64 zs107), (55, ag .u64 zs244)] ?_
          have q_ := hD191_4 zs107 zs244 (by assumption) (by assumption) (by assumption) (by assumption)
          rw [hR_] at q_
          exact q_
        · skip
          refine ⟨(some 7), (.alloc 89), (bm 26 6291455), [6, 5, 4], (by kernel_rfl), (by kernel_rfl), ?_⟩
          refine (Step.al hU 5 40 z5 (fun b247 => ?_))
          have hl248 : (List.replicate 5 (0 : Int)).length = 5 := List.length_replicate
          refine orL ?_
          refine RunU.turn [blk b247 89 (nums .u64 (List.replicate 5 (0 : Int))), blk b102 89 (nums .u64 zs99), blk b58 89 (nums .u64 zs53), blk b56 89 (nums .u64 zs50), blk b9 89 (nums .u64 zs4), blk b7 89 (nums .u64 zs1), blk b 108 (nums .u64 us ++ (nums .u64 xs2 ++ (nums .u64 zs2 ++ (nums .u64 xs3 ++ nums .u64 zs3))))] (fun _ _ w hs => hs.pulls2 [0, 0, 0, 0, 0, 0, 0] _ (by kernel_rfl)) ?_
          refine RunU.ev [0, 4, 5, 6, 7, 44, 53, 54] [(0, pt b), (4, pt b56), (5, pt b58), (6, pt b102), (7, pt b247), (44, ag .u64 zs107), (53, ag .u64 zs110), (54, ag .u64 zs4)] ?_
          have q_ := hD191_5 zs107 zs110 b247 (by assumption) (by assumption) (by assumption) (by assumption)
          rw [hR_] at q_
          exact q_
        · skip
          refine ⟨(some 8), (.alloc 89), (bm 26 10485759), [6, 5, 4], (by kernel_rfl), (by kernel_rfl), ?_⟩
          refine (Step.al hU 5 40 z5 (fun b249 => ?_))
          have hl250 : (List.replicate 5 (0 : Int)).length = 5 := List.length_replicate
          refine orL ?_
          refine RunU.turn [blk b249 89 (nums .u64 (List.replicate 5 (0 : Int))), blk b102 89 (nums .u64 zs99), blk b58 89 (nums .u64 zs53), blk b56 89 (nums .u64 zs50), blk b9 89 (nums .u64 zs4), blk b7 89 (nums .u64 zs1), blk b 108 (nums .u64 us ++ (nums .u64 xs2 ++ (nums .u64 zs2 ++ (nums .u64 xs3 ++ nums .u64 zs3))))] (fun _ _ w hs => hs.pulls2 [0, 0, 0, 0, 0, 0, 0] _ (by kernel_rfl)) ?_
          refine RunU.ev [0, 4, 5, 6, 8, 44, 53, 54] [(0, pt b), (4, pt b56), (5, pt b58), (6, pt b102), (8, pt b249), (44, ag .u64 zs107), (53, ag .u64 zs110), (54, ag .u64 zs4)] ?_
          have q_ := hD191_6 zs107 zs110 b249 (by assumption) (by assumption) (by assumption) (by assumption)
          rw [hR_] at q_
          exact q_
      have hD191_9 : ∀ (zs107 : List Int) (b141 : Nat), El zs107 ((((x3 - z3) % P) * ((x2 + z2) % P)) % P) → zs107.length = 5 → R_ 5 (bm 26 5767167) [(0, pt b), (4, pt b56), (5, pt b58), (6, pt b102), (7, pt b141), (44, ag .u64 zs107), (48, ag .u64 xs3), (52, ag .u64 zs3), (54, ag .u64 zs4)] [blk b141 89 (nums .u64 (List.replicate 5 (0 : Int))), blk b102 89 (nums .u64 zs99), blk b58 89 (nums .u64 zs53), blk b56 89 (nums .u64 zs50), blk b9 89 (nums .u64 zs4), blk b7 89 (nums .u64 zs1), blk b 108 (nums .u64 us ++ (nums .u64 xs2 ++ (nums .u64 zs2 ++ (nums .u64 xs3 ++ nums .u64 zs3))))] := by
        intro zs107 b141 hp108 hp109
        rw [hR_]
        refine RunU.any [19, 23] (by kernel_rfl) rfl (all_cons (i := 19) ?_ (all_cons (i := 23) ?_ all_nil))
        · skip
          refine ⟨(some 53), (.call { callee := .value (.func 89), args := #[.tmp 48, .tmp 52], argTypes := #[89, 89] }), (bm 26 6291455), [6, 5, 4], (by kernel_rfl), (by kernel_rfl), ?_⟩
          refine (Step.cn 89 [ag .u64 xs3, ag .u64 zs3] [] [blk b141 89 (nums .u64 (List.replicate 5 (0 : Int))), blk b102 89 (nums .u64 zs99), blk b58 89 (nums .u64 zs53), blk b56 89 (nums .u64 zs50), blk b9 89 (nums .u64 zs4), blk b7 89 (nums .u64 zs1), blk b 108 (nums .u64 us ++ (nums .u64 xs2 ++ (nums .u64 zs2 ++ (nums .u64 xs3 ++ nums .u64 zs3))))] (f_Add_spec xs3 x3 zs3 z3 (by assumption) (by assumption) (by assumption) (by assumption)) [] ?_)
          rintro _ _ ⟨zs251, rfl, rfl, hp252, hp253⟩
          refine orL ?_
          refine RunU.turn [blk b141 89 (nums .u64 (List.replicate 5 (0 : Int))), blk b102 89 (nums .u64 zs99), blk b58 89 (nums .u64 zs53), blk b56 89 (nums .u64 zs50), blk b9 89 (nums .u64 zs4), blk b7 89 (nums .u64 zs1), blk b 108 (nums .u64 us ++ (nums .u64 xs2 ++ (nums .u64 zs2 ++ (nums .u64 xs3 ++ nums .u64 zs3))))] (fun _ _ w hs => hs.pulls2 [0, 0, 0, 0, 0, 0, 0] _ (by kernel_rfl)) ?_
          refine RunU.ev [0, 4, 5, 6, 7, 44, 53, 54] [(0, pt b), (4, pt b56), (5, pt b58), (6, pt b102), (7, pt b141), (44, ag .u64 zs107), (53, ag .u64 zs251), (54, ag .u64 zs4)] ?_
          have q_ := hD191_5 zs107 zs251 b141 (by assumption) (by assumption) (by assumption) (by assumption)
          rw [hR_] at q_
          exact q_
        · skip
          refine ⟨(some 8), (.alloc 89), (bm 26 14155775), [7, 6, 5], (by kernel_rfl), (by kernel_rfl), ?_⟩
          refine (Step.al hU 5 40 z5 (fun b254 => ?_))
          have hl255 : (List.replicate 5 (0 : Int)).length = 5 := List.length_replicate
          refine orL ?_
          refine RunU.turn [blk b254 89 (nums .u64 (List.replicate 5 (0 : Int))), blk b141 89 (nums .u64 (List.replicate 5 (0 : Int))), blk b102 89 (nums .u64 zs99), blk b58 89 (nums .u64 zs53), blk b56 89 (nums .u64 zs50), blk b9 89 (nums .u64 zs4), blk b7 89 (nums .u64 zs1), blk b 108 (nums .u64 us ++ (nums .u64 xs2 ++ (nums .u64 zs2 ++ (nums .u64 xs3 ++ nums .u64 zs3))))] (fun _ _ w hs => hs.pulls2 [0, 0, 0, 0, 0, 0, 0, 0] _ (by kernel_rfl)) ?_
          refine RunU.ev [0, 4, 5, 6, 7, 8, 44, 48, 52, 54] [(0, pt b), (4, pt b56), (5, pt b58), (6, pt b102), (7, pt b141), (8, pt b254), (44, ag .u64 zs107), (48, ag .u64 xs3), (52, ag .u64 zs3), (54, ag .u64 zs4)] ?_
          have q_ := hD191_7 zs107 b141 b254 (by assumption) (by assumption)
          rw [hR_] at q_
          exact q_
      have hD191_10 : ∀ (zs107 : List Int) (b151 : Nat), El zs107 ((((x3 - z3) % P) * ((x2 + z2) % P)) % P) → zs107.length = 5 → R_ 5 (bm 26 9961471) [(0, pt b), (4, pt b56), (5, pt b58), (6, pt b102), (8, pt b151), (44, ag .u64 zs107), (48, ag .u64 xs3), (52, ag .u64 zs3), (54, ag .u64 zs4)] [blk b151 89 (nums .u64 (List.replicate 5 (0 : Int))), blk b102 89 (nums .u64 zs99), blk b58 89 (nums .u64 zs53), blk b56 89 (nums .u64 zs50), blk b9 89 (nums .u64 zs4), blk b7 89 (nums .u64 zs1), blk b 108 (nums .u64 us ++ (nums .u64 xs2 ++ (nums .u64 zs2 ++ (nums .u64 xs3 ++ nums .u64 zs3))))] := by
        intro zs107 b151 hp108 hp109
        rw [hR_]
        refine RunU.any [19, 22] (by kernel_rfl) rfl (all_cons (i := 19) ?_ (all_cons (i := 22) ?_ all_nil))
        · skip
          refine ⟨(some 53), (.call { callee := .value (.func 89), args := #[.tmp 48, .tmp 52], argTypes := #[89, 89] }), (bm 26 10485759), [6, 5, 4], (by kernel_rfl), (by kernel_rfl), ?_⟩
          refine (Step.cn 89 [ag .u64 xs3, ag .u64 zs3] [] [blk b151 89 (nums .u64 (List.replicate 5 (0 : Int))), blk b102 89 (nums .u64 zs99), blk b58 89 (nums .u64 zs53), blk b56 89 (nums .u64 zs50), blk b9 89 (nums .u64 zs4), blk b7 89 (nums .u64 zs1), blk b 108 (nums .u64 us ++ (nums .u64 xs2 ++ (nums .u64 zs2 ++ (nums .u64 xs3 ++ nums .u64 zs3))))] (f_Add_spec xs3 x3 zs3 z3 (by assumption) (by assumption) (by assumption) (by assumption)) [] ?_)
          rintro _ _ ⟨zs256, rfl, rfl, hp257, hp258⟩
          refine orL ?_
          refine RunU.turn [blk b151 89 (nums .u64 (List.replicate 5 (0 : Int))), blk b102 89 (nums .u64 zs99), blk b58 89 (nums .u64 zs53), blk b56 89 (nums .u64 zs50), blk b9 89 (nums .u64 zs4), blk b7 89 (nums .u64 zs1), blk b 108 (nums .u64 us ++ (nums .u64 xs2 ++ (nums .u64 zs2 ++ (nums .u64 xs3 ++ nums .u64 zs3))))] (fun _ _ w hs => hs.pulls2 [0, 0, 0, 0, 0, 0, 0] _ (by kernel_rfl)) ?_
          refine RunU.ev [0, 4, 5, 6, 8, 44, 53, 54] [(0, pt b), (4, pt b56), (5, pt b58), (6, pt b102), (8, pt b151), (44, ag .u64 zs107), (53, ag .u64 zs256), (54, ag .u64 zs4)] ?_
          have q_ := hD191_6 zs107 zs256 b151 (by assumption) (by assumption) (by assumption) (by assumption)
          rw [hR_] at q_
          exact q_
        · skip
          refine ⟨(some 7), (.alloc 89), (bm 26 14155775), [7, 6, 5], (by kernel_rfl), (by kernel_rfl), ?_⟩
          refine (Step.al hU 5 40 z5 (fun b259 => ?_))
          have hl260 : (List.replicate 5 (0 : Int)).length = 5 := List.length_replicate
          refine orL ?_
          refine RunU.turn [blk b151 89 (nums .u64 (List.replicate 5 (0 : Int))), blk b259 89 (nums .u64 (List.replicate 5 (0 : Int))), blk b102 89 (nums .u64 zs99), blk b58 89 (nums .u64 zs53), blk b56 89 (nums .u64 zs50), blk b9 89 (nums .u64 zs4), blk b7 89 (nums .u64 zs1), blk b 108 (nums .u64 us ++ (nums .u64 xs2 ++ (nums .u64 zs2 ++ (nums .u64 xs3 ++ nums .u64 zs3))))] (fun _ _ w hs => hs.pulls2 [1, 0, 0, 0, 0, 0, 0, 0] _ (by kernel_rfl)) ?_
          refine RunU.ev [0, 4, 5, 6, 7, 8, 44, 48, 52, 54] [(0, pt b), (4, pt b56), (5, pt b58), (6, pt b102), (7, pt b259), (8, pt b151), (44, ag .u64 zs107), (48, ag .u64 xs3), (52, ag .u64 zs3), (54, ag .u64 zs4)] ?_
          have q_ := hD191_7 zs107 b259 b151 (by assumption) (by assumption)
          rw [hR_] at q_
          exact q_
      have hD191_11 : ∀ (zs104 : List Int) (b158 : Nat) (b163 : Nat), El zs104 ((x3 - z3) % P) → zs104.length = 5 → R_ 5 (bm 26 14154751) [(0, pt b), (4, pt b56), (5, pt b58), (6, pt b102), (7, pt b158), (8, pt b163), (42, ag .u64 zs104), (43, ag .u64 zs1), (48, ag .u64 xs3), (52, ag .u64 zs3), (54, ag .u64 zs4)] [blk b163 89 (nums .u64 (List.replicate 5 (0 : Int))), blk b158 89 (nums .u64 (List.replicate 5 (0 : Int))), blk b102 89 (nums .u64 zs99), blk b58 89 (nums .u64 zs53), blk b56 89 (nums .u64 zs50), blk b9 89 (nums .u64 zs4), blk b7 89 (nums .u64 zs1), blk b 108 (nums .u64 us ++ (nums .u64 xs2 ++ (nums .u64 zs2 ++ (nums .u64 xs3 ++ nums .u64 zs3))))] := by
        intro zs104 b158 b163 hp105 hp106
        rw [hR_]
        refine RunU.any [10] (by kernel_rfl) rfl (all_cons (i := 10) ?_ all_nil)
        · skip
          refine ⟨(some 44), (.call { callee := .value (.func 75), args := #[.tmp 42, .tmp 43], argTypes := #[89, 89] }), (bm 26 14155775), [7, 6, 5], (by kernel_rfl), (by kernel_rfl), ?_⟩
          refine (Step.cn 75 [ag .u64 zs104, ag .u64 zs1] [] [blk b163 89 (nums .u64 (List.replicate 5 (0 : Int))), blk b158 89 (nums .u64 (List.replicate 5 (0 : Int))), blk b102 89 (nums .u64 zs99), blk b58 89 (nums .u64 zs53), blk b56 89 (nums .u64 zs50), blk b9 89 (nums .u64 zs4), blk b7 89 (nums .u64 zs1), blk b 108 (nums .u64 us ++ (nums .u64 xs2 ++ (nums .u64 zs2 ++ (nums .u64 xs3 ++ nums .u64 zs3))))] (f_Mul_spec zs104 ((x3 - z3) % P) zs1 ((x2 + z2) % P) (by assumption) (by assumption) (by assumption) (by assumption)) [] ?_)
          rintro _ _ ⟨zs261, rfl, rfl, hp262, hp263⟩
          refine orL ?_
          refine RunU.turn [blk b163 89 (nums .u64 (List.replicate 5 (0 : Int))), blk b158 89 (nums .u64 (List.replicate 5 (0 : Int))), blk b102 89 (nums .u64 zs99), blk b58 89 (nums .u64 zs53), blk b56 89 (nums .u64 zs50), blk b9 89 (nums .u64 zs4), blk b7 89 (nums .u64 zs1), blk b 108 (nums .u64 us ++ (nums .u64 xs2 ++ (nums .u64 zs2 ++ (nums .u64 xs3 ++ nums .u64 zs3))))] (fun _ _ w hs => hs.pulls2 [0, 0, 0, 0, 0, 0, 0, 0] _ (by kernel_rfl)) ?_
          refine RunU.ev [0, 4, 5, 6, 7, 8, 44, 48, 52, 54] [(0, pt b), (4, pt b56), (5, pt b58), (6, pt b102), (7, pt b158), (8, pt b163), (44, ag .u64 zs261), (48, ag .u64 xs3), (52, ag .u64 zs3), (54, ag .u64 zs4)] ?_
          have q_ := hD191_7 zs261 b158 b163 (by assumption) (by assumption)
          rw [hR_] at q_
          exact q_
      have hD191_12 : ∀ (zs107 : List Int), El zs107 ((((x3 - z3) % P) * ((x2 + z2) % P)) % P) → zs107.length = 5 → R_ 6 (bm 26 1572863) [(0, pt b), (4, pt b56), (5, pt b58), (6, pt b102), (44, ag .u64 zs107), (48, ag .u64 xs3), (52, ag .u64 zs3), (54, ag .u64 zs4)] [blk b102 89 (nums .u64 zs99), blk b58 89 (nums .u64 zs53), blk b56 89 (nums .u64 zs50), blk b9 89 (nums .u64 zs4), blk b7 89 (nums .u64 zs1), blk b 108 (nums .u64 us ++ (nums .u64 xs2 ++ (nums .u64 zs2 ++ (nums .u64 xs3 ++ nums .u64 zs3))))] := by
        intro zs107 hp108 hp109
        rw [hR_]
        refine RunU.any [19, 22, 23] (by kernel_rfl) rfl (all_cons (i := 19) ?_ (all_cons (i := 22) ?_ (all_cons (i := 23) ?_ all_nil)))
        · skip
          refine ⟨(some 53), (.call { callee := .value (.func 89), args := #[.tmp 48, .tmp 52], argTypes := #[89, 89] }), (bm 26 2097151), [5, 4, 3], (by kernel_rfl), (by kernel_rfl), ?_⟩
          refine (Step.cn 89 [ag .u64 xs3, ag .u64 zs3] [] [blk b102 89 (nums .u64 zs99), blk b58 89 (nums .u64 zs53), blk b56 89 (nums .u64 zs50), blk b9 89 (nums .u64 zs4), blk b7 89 (nums .u64 zs1), blk b 108 (nums .u64 us ++ (nums .u64 xs2 ++ (nums .u64 zs2 ++ (nums .u64 xs3 ++ nums .u64 zs3))))] (f_Add_spec xs3 x3 zs3 z3 (by assumption) (by assumption) (by assumption) (by assumption)) [] ?_)
          rintro _ _ ⟨zs264, rfl, rfl, hp265, hp266⟩
          refine orL ?_
          refine RunU.turn [blk b102 89 (nums .u64 zs99), blk b58 89 (nums .u64 zs53), blk b56 89 (nums .u64 zs50), blk b9 89 (nums .u64 zs4), blk b7 89 (nums .u64 zs1), blk b 108 (nums .u64 us ++ (nums .u64 xs2 ++ (nums .u64 zs2 ++ (nums .u64 xs3 ++ nums .u64 zs3))))] (fun _ _ w hs => hs.pulls2 [0, 0, 0, 0, 0, 0] _ (by kernel_rfl)) ?_
          refine RunU.ev [0, 4, 5, 6, 44, 53, 54] [(0, pt b), (4, pt b56), (5, pt b58), (6, pt b102), (44, ag .u64 zs107), (53, ag .u64 zs264), (54, ag .u64 zs4)] ?_
          have q_ := hD191_8 zs107 zs264 (by assumption) (by assumption) (by assumption) (by assumption)
          rw [hR_] at q_
          exact q_
        · skip
          refine ⟨(some 7), (.alloc 89), (bm 26 5767167), [6, 5, 4], (by kernel_rfl), (by kernel_rfl), ?_⟩
          refine (Step.al hU 5 40 z5 (fun b267 => ?_))
          have hl268 : (List.replicate 5 (0 : Int)).length = 5 := List.length_replicate
          refine orL ?_
          refine RunU.turn [blk b267 89 (nums .u64 (List.replicate 5 (0 : Int))), blk b102 89 (nums .u64 zs99), blk b58 89 (nums .u64 zs53), blk b56 89 (nums .u64 zs50), blk b9 89 (nums .u64 zs4), blk b7 89 (nums .u64 zs1), blk b 108 (nums .u64 us ++ (nums .u64 xs2 ++ (nums .u64 zs2 ++ (nums .u64 xs3 ++ nums .u64 zs3))))] (fun _ _ w hs => hs.pulls2 [0, 0, 0, 0, 0, 0, 0] _ (by kernel_rfl)) ?_
          refine RunU.ev [0, 4, 5, 6, 7, 44, 48, 52, 54] [(0, pt b), (4, pt b56), (5, pt b58), (6, pt b102), (7, pt b267), (44, ag .u64 zs107), (48, ag .u64 xs3), (52, ag .u64 zs3), (54, ag .u64 zs4)] ?_
          have q_ := hD191_9 zs107 b267 (by assumption) (by assumption)
          rw [hR_] at q_
          exact q_
        · skip
          refine ⟨(some 8), (.alloc 89), (bm 26 9961471), [6, 5, 4], (by kernel_rfl), (by kernel_rfl), ?_⟩
          refine (Step.al hU 5 40 z5 (fun b269 => ?_))
          have hl270 : (List.replicate 5 (0 : Int)).length = 5 := List.length_replicate
          refine orL ?_
          refine RunU.turn [blk b269 89 (nums .u64 (List.replicate 5 (0 : Int))), blk b102 89 (nums .u64 zs99), blk b58 89 (nums .u64 zs53), blk b56 89 (nums .u64 zs50), blk b9 89 (nums .u64 zs4), blk b7 89 (nums .u64 zs1), blk b 108 (nums .u64 us ++ (nums .u64 xs2 ++ (nums .u64 zs2 ++ (nums .u64 xs3 ++ nums .u64 zs3))))] (fun _ _ w hs => hs.pulls2 [0, 0, 0, 0, 0, 0, 0] _ (by kernel_rfl)) ?_
          refine RunU.ev [0, 4, 5, 6, 8, 44, 48, 52, 54] [(0, pt b), (4, pt b56), (5, pt b58), (6, pt b102), (8, pt b269), (44, ag .u64 zs107), (48, ag .u64 xs3), (52, ag .u64 zs3), (54, ag .u64 zs4)] ?_
          have q_ := hD191_10 zs107 b269 (by assumption) (by assumption)
          rw [hR_] at q_
          exact q_
      have hD191_13 : ∀ (zs104 : List Int) (b158 : Nat), El zs104 ((x3 - z3) % P) → zs104.length = 5 → R_ 6 (bm 26 5766143) [(0, pt b), (4, pt b56), (5, pt b58), (6, pt b102), (7, pt b158), (42, ag .u64 zs104), (43, ag .u64 zs1), (48, ag .u64 xs3), (52, ag .u64 zs3), (54, ag .u64 zs4)] [blk b158 89 (nums .u64 (List.replicate 5 (0 : Int))), blk b102 89 (nums .u64 zs99), blk b58 89 (nums .u64 zs53), blk b56 89 (nums .u64 zs50), blk b9 89 (nums .u64 zs4), blk b7 89 (nums .u64 zs1), blk b 108 (nums .u64 us ++ (nums .u64 xs2 ++ (nums .u64 zs2 ++ (nums .u64 xs3 ++ nums .u64 zs3))))] := by
        intro zs104 b158 hp105 hp106
        rw [hR_]
        refine RunU.any [10, 23] (by kernel_rfl) rfl (all_cons (i := 10) ?_ (all_cons (i := 23) ?_ all_nil))
        · skip
          refine ⟨(some 44), (.call { callee := .value (.func 75), args := #[.tmp 42, .tmp 43], argTypes := #[89, 89] }), (bm 26 5767167), [6, 5, 4], (by kernel_rfl), (by kernel_rfl), ?_⟩
          refine (Step.cn 75 [ag .u64 zs104, ag .u64 zs1] [] [blk b158 89 (nums .u64 (List.replicate 5 (0 : Int))), blk b102 89 (nums .u64 zs99), blk b58 89 (nums .u64 zs53), blk b56 89 (nums .u64 zs50), blk b9 89 (nums .u64 zs4), blk b7 89 (nums .u64 zs1), blk b 108 (nums .u64 us ++ (nums .u64 xs2 ++ (nums .u64 zs2 ++ (nums .u64 xs3 ++ nums .u64 zs3))))] (f_Mul_spec zs104 ((x3 - z3) % P) zs1 ((x2 + z2) % P) (by assumption) (by assumption) (by assumption) (by assumption)) [] ?_)
          rintro _ _ ⟨zs271, rfl, rfl, hp272, hp273⟩
          refine orL ?_
          refine RunU.turn [blk b158 89 (nums .u64 (List.replicate 5 (0 : Int))), blk b102 89 (nums .u64 zs99), blk b58 89 (nums .u64 zs53), blk b56 89 (nums .u64 zs50), blk b9 89 (nums .u64 zs4), blk b7 89 (nums .u64 zs1), blk b 108 (nums .u64 us ++ (nums .u64 xs2 ++ (nums .u64 zs2 ++ (nums .u64 xs3 ++ nums .u64 zs3))))] (fun _ _ w hs => hs.pulls2 [0, 0, 0, 0, 0, 0, 0] _ (by kernel_rfl)) ?_
          refine RunU.ev [0, 4, 5, 6, 7, 44, 48, 52, 54] [(0, pt b), (4, pt b56), (5, pt b58), (6, pt b102), (7, pt b158), (44, ag .u64 zs271), (48, ag .u64 xs3), (52, ag .u64 zs3), (54, ag .u64 zs4)] ?_
          have q_ := hD191_9 zs271 b158 (by assumption) (by assumption)
          rw [hR_] at q_
          exact q_
        · skip
          refine ⟨(some 8), (.alloc 89), (bm 26 14154751), [7, 6, 5], (by kernel_rfl), (by kernel_rfl), ?_⟩
          refine (Step.al hU 5 40 z5 (fun b274 => ?_))
          have hl275 : (List.replicate 5 (0 : Int)).length = 5 := List.length_replicate
          refine orL ?_
          refine RunU.turn [blk b274 89 (nums .u64 (List.replicate 5 (0 : Int))), blk b158 89 (nums .u64 (List.replicate 5 (0 : Int))), blk b102 89 (nums .u64 zs99), blk b58 89 (nums .u64 zs53), blk b56 89 (nums .u64 zs50), blk b9 89 (nums .u64 zs4), blk b7 89 (nums .u64 zs1), blk b 108 (nums .u64 us ++ (nums .u64 xs2 ++ (nums .u64 zs2 ++ (nums .u64 xs3 ++ nums .u64 zs3))))] (fun _ _ w hs => hs.pulls2 [0, 0, 0, 0, 0, 0, 0, 0] _ (by kernel_rfl)) ?_
          refine RunU.ev [0, 4, 5, 6, 7, 8, 42, 43, 48, 52, 54] [(0, pt b), (4, pt b56), (5, pt b58), (6, pt b102), (7, pt b158), (8, pt b274), (42, ag .u64 zs104), (43, ag .u64 zs1), (48, ag .u64 xs3), (52, ag .u64 zs3), (54, ag .u64 zs4)] ?_
          have q_ := hD191_11 zs104 b158 b274 (by assumption) (by assumption)
          rw [hR_] at q_
          exact q_
      have hD191_14 : ∀ (zs104 : List Int) (b168 : Nat), El zs104 ((x3 - z3) % P) → zs104.length = 5 → R_ 6 (bm 26 9960447) [(0, pt b), (4, pt b56), (5, pt b58), (6, pt b102), (8, pt b168), (42, ag .u64 zs104), (43, ag .u64 zs1), (48, ag .u64 xs3), (52, ag .u64 zs3), (54, ag .u64 zs4)] [blk b168 89 (nums .u64 (List.replicate 5 (0 : Int))), blk b102 89 (nums .u64 zs99), blk b58 89 (nums .u64 zs53), blk b56 89 (nums .u64 zs50), blk b9 89 (nums .u64 zs4), blk b7 89 (nums .u64 zs1), blk b 108 (nums .u64 us ++ (nums .u64 xs2 ++ (nums .u64 zs2 ++ (nums .u64 xs3 ++ nums .u64 zs3))))] := by
        intro zs104 b168 hp105 hp106
        rw [hR_]
        refine RunU.any [10, 22] (by kernel_rfl) rfl (all_cons (i := 10) ?_ (all_cons (i := 22) ?_ all_nil))
        · skip
          refine ⟨(some 44), (.call { callee := .value (.func 75), args := #[.tmp 42, .tmp 43], argTypes := #[89, 89] }), (bm 26 9961471), [6, 5, 4], (by kernel_rfl), (by kernel_rfl), ?_⟩
          refine (Step.cn 75 [ag .u64 zs104, ag .u64 zs1] [] [blk b168 89 (nums .u64 (List.replicate 5 (0 : Int))), blk b102 89 (nums .u64 zs99), blk b58 89 (nums .u64 zs53), blk b56 89 (nums .u64 zs50), blk b9 89 (nums .u64 zs4), blk b7 89 (nums .u64 zs1), blk b 108 (nums .u64 us ++ (nums .u64 xs2 ++ (nums .u64 zs2 ++ (nums .u64 xs3 ++ nums .u64 zs3))))] (f_Mul_spec zs104 ((x3 - z3) % P) zs1 ((x2 + z2) % P) (by assumption) (by assumption) (by assumption) (by assumption)) [] ?_)
          rintro _ _ ⟨zs276, rfl, rfl, hp277, hp278⟩
          refine orL ?_
          refine RunU.turn [blk b168 89 (nums .u64 (List.replicate 5 (0 : Int))), blk b102 89 (nums .u64 zs99), blk b58 89 (nums .u64 zs53), blk b56 89 (nums .u64 zs50), blk b9 89 (nums .u64 zs4), blk b7 89 (nums .u64 zs1), blk b 108 (nums .u64 us ++ (nums .u64 xs2 ++ (nums .u64 zs2 ++ (nums .u64 xs3 ++ nums .u64 zs3))))] (fun _ _ w hs => hs.pulls2 [0, 0, 0, 0, 0, 0, 0] _ (by kernel_rfl)) ?_
          refine RunU.ev [0, 4, 5, 6, 8, 44, 48, 52, 54] [(0, pt b), (4, pt b56), (5, pt b58), (6, pt b102), (8, pt b168), (44, ag .u64 zs276), (48, ag .u64 xs3), (52, ag .u64 zs3), (54, ag .u64 zs4)] ?_
          have q_ := hD191_10 zs276 b168 (by assumption) (by assumption)
          rw [hR_] at q_
          exact q_
        · skip
          refine ⟨(some 7), (.alloc 89), (bm 26 14154751), [7, 6, 5], (by kernel_rfl), (by kernel_rfl), ?_⟩
          refine (Step.al hU 5 40 z5 (fun b279 => ?_))
          have hl280 : (List.replicate 5 (0 : Int)).length = 5 := List.length_replicate
          refine orL ?_
          refine RunU.turn [blk b168 89 (nums .u64 (List.replicate 5 (0 : Int))), blk b279 89 (nums .u64 (List.replicate 5 (0 : Int))), blk b102 89 (nums .u64 zs99), blk b58 89 (nums .u64 zs53), blk b56 89 (nums .u64 zs50), blk b9 89 (nums .u64 zs4), blk b7 89 (nums .u64 zs1), blk b 108 (nums .u64 us ++ (nums .u64 xs2 ++ (nums .u64 zs2 ++ (nums .u64 xs3 ++ nums .u64 zs3))))] (fun _ _ w hs => hs.pulls2 [1, 0, 0, 0, 0, 0, 0, 0] _ (by kernel_rfl)) ?_
          refine RunU.ev [0, 4, 5, 6, 7, 8, 42, 43, 48, 52, 54] [(0, pt b), (4, pt b56), (5, pt b58), (6, pt b102), (7, pt b279), (8, pt b168), (42, ag .u64 zs104), (43, ag .u64 zs1), (48, ag .u64 xs3), (52, ag .u64 zs3), (54, ag .u64 zs4)] ?_
          have q_ := hD191_11 zs104 b279 b168 (by assumption) (by assumption)
          rw [hR_] at q_
          exact q_
      have hD191_15 : ∀ (b175 : Nat) (b180 : Nat), R_ 6 (bm 26 14154495) [(0, pt b), (4, pt b56), (5, pt b58), (6, pt b102), (7, pt b175), (8, pt b180), (37, ag .u64 xs3), (41, ag .u64 zs3), (43, ag .u64 zs1), (48, ag .u64 xs3), (52, ag .u64 zs3), (54, ag .u64 zs4)] [blk b180 89 (nums .u64 (List.replicate 5 (0 : Int))), blk b175 89 (nums .u64 (List.replicate 5 (0 : Int))), blk b102 89 (nums .u64 zs99), blk b58 89 (nums .u64 zs53), blk b56 89 (nums .u64 zs50), blk b9 89 (nums .u64 zs4), blk b7 89 (nums .u64 zs1), blk b 108 (nums .u64 us ++ (nums .u64 xs2 ++ (nums .u64 zs2 ++ (nums .u64 xs3 ++ nums .u64 zs3))))] := by
        intro b175 b180
        rw [hR_]
        refine RunU.any [8] (by kernel_rfl) rfl (all_cons (i := 8) ?_ all_nil)
        · skip
          refine ⟨(some 42), (.call { callee := .value (.func 90), args := #[.tmp 37, .tmp 41], argTypes := #[89, 89] }), (bm 26 14154751), [7, 6, 5], (by kernel_rfl), (by kernel_rfl), ?_⟩
          refine (Step.cn 90 [ag .u64 xs3, ag .u64 zs3] [] [blk b180 89 (nums .u64 (List.replicate 5 (0 : Int))), blk b175 89 (nums .u64 (List.replicate 5 (0 : Int))), blk b102 89 (nums .u64 zs99), blk b58 89 (nums .u64 zs53), blk b56 89 (nums .u64 zs50), blk b9 89 (nums .u64 zs4), blk b7 89 (nums .u64 zs1), blk b 108 (nums .u64 us ++ (nums .u64 xs2 ++ (nums .u64 zs2 ++ (nums .u64 xs3 ++ nums .u64 zs3))))] (f_Sub_spec xs3 x3 zs3 z3 (by assumption) (by assumption) (by assumption) (by assumption)) [] ?_)
          rintro _ _ ⟨zs281, rfl, rfl, hp282, hp283⟩
          refine orL ?_
          refine RunU.turn [blk b180 89 (nums .u64 (List.replicate 5 (0 : Int))), blk b175 89 (nums .u64 (List.replicate 5 (0 : Int))), blk b102 89 (nums .u64 zs99), blk b58 89 (nums .u64 zs53), blk b56 89 (nums .u64 zs50), blk b9 89 (nums .u64 zs4), blk b7 89 (nums .u64 zs1), blk b 108 (nums .u64 us ++ (nums .u64 xs2 ++ (nums .u64 zs2 ++ (nums .u64 xs3 ++ nums .u64 zs3))))] (fun _ _ w hs => hs.pulls2 [0, 0, 0, 0, 0, 0, 0, 0] _ (by kernel_rfl)) ?_
          refine RunU.ev [0, 4, 5, 6, 7, 8, 42, 43, 48, 52, 54] [(0, pt b), (4, pt b56), (5, pt b58), (6, pt b102), (7, pt b175), (8, pt b180), (42, ag .u64 zs281), (43, ag .u64 zs1), (48, ag .u64 xs3), (52, ag .u64 zs3), (54, ag .u64 zs4)] ?_
          have q_ := hD191_11 zs281 b175 b180 (by assumption) (by assumption)
          rw [hR_] at q_
          exact q_
      have hD191_16 : ∀ (zs104 : List Int), El zs104 ((x3 - z3) % P) → zs104.length = 5 → R_ 7 (bm 26 1571839) [(0, pt b), (4, pt b56), (5, pt b58), (6, pt b102), (42, ag .u64 zs104), (43, ag .u64 zs1), (48, ag .u64 xs3), (52, ag .u64 zs3), (54, ag .u64 zs4)] [blk b102 89 (nums .u64 zs99), blk b58 89 (nums .u64 zs53), blk b56 89 (nums .u64 zs50), blk b9 89 (nums .u64 zs4), blk b7 89 (nums .u64 zs1), blk b 108 (nums .u64 us ++ (nums .u64 xs2 ++ (nums .u64 zs2 ++ (nums .u64 xs3 ++ nums .u64 zs3))))] := by
        intro zs104 hp105 hp106
        rw [hR_]
        refine RunU.any [10, 22, 23] (by kernel_rfl) rfl (all_cons (i := 10) ?_ (all_cons (i := 22) ?_ (all_cons (i := 23) ?_ all_nil)))
        · skip
          refine ⟨(some 44), (.call { callee := .value (.func 75), args := #[.tmp 42, .tmp 43], argTypes := #[89, 89] }), (bm 26 1572863), [5, 4, 3], (by kernel_rfl), (by kernel_rfl), ?_⟩
          refine (Step.cn 75 [ag .u64 zs104, ag .u64 zs1] [] [blk b102 89 (nums .u64 zs99), blk b58 89 (nums .u64 zs53), blk b56 89 (nums .u64 zs50), blk b9 89 (nums .u64 zs4), blk b7 89 (nums .u64 zs1), blk b 108 (nums .u64 us ++ (nums .u64 xs2 ++ (nums .u64 zs2 ++ (nums .u64 xs3 ++ nums .u64 zs3))))] (f_Mul_spec zs104 ((x3 - z3) % P) zs1 ((x2 + z2) % P) (by assumption) (by assumption) (by assumption) (by assumption)) [] ?_)
          rintro _ _ ⟨zs284, rfl, rfl, hp285, hp286⟩
          refine orL ?_
          refine RunU.turn [blk b102 89 (nums .u64 zs99), blk b58 89 (nums .u64 zs53), blk b56 89 (nums .u64 zs50), blk b9 89 (nums .u64 zs4), blk b7 89 (nums .u64 zs1), blk b 108 (nums .u64 us ++ (nums .u64 xs2 ++ (nums .u64 zs2 ++ (nums .u64 xs3 ++ nums .u64 zs3))))] (fun _ _ w hs => hs.pulls2 [0, 0, 0, 0, 0, 0] _ (by kernel_rfl)) ?_
          refine RunU.ev [0, 4, 5, 6, 44, 48, 52, 54] [(0, pt b), (4, pt b56), (5, pt b58), (6, pt b102), (44, ag .u64 zs284), (48, ag .u64 xs3), (52, ag .u64 zs3), (54, ag .u64 zs4)] ?_
          have q_ := hD191_12 zs284 (by assumption) (by assumption)
          rw [hR_] at q_
          exact q_
        · skip
          refine ⟨(some 7), (.alloc 89), (bm 26 5766143), [6, 5, 4], (by kernel_rfl), (by kernel_rfl), ?_⟩
          refine (Step.al hU 5 40 z5 (fun b287 => ?_))
          have hl288 : (List.replicate 5 (0 : Int)).length = 5 := List.length_replicate
          refine orL ?_
          refine RunU.turn [blk b287 89 (nums .u64 (List.replicate 5 (0 : Int))), blk b102 89 (nums .u64 zs99), blk b58 89 (nums .u64 zs53), blk b56 89 (nums .u64 zs50), blk b9 89 (nums .u64 zs4), blk b7 89 (nums .u64 zs1), blk b 108 (nums .u64 us ++ (nums .u64 xs2 ++ (nums .u64 zs2 ++ (nums .u64 xs3 ++ nums .u64 zs3))))] (fun _ _ w hs => hs.pulls2 [0, 0, 0, 0, 0, 0, 0] _ (by kernel_rfl)) ?_
          refine RunU.ev [0, 4, 5, 6, 7, 42, 43, 48, 52, 54] [(0, pt b), (4, pt b56), (5, pt b58), (6, pt b102), (7, pt b287), (42, ag .u64 zs104), (43, ag .u64 zs1), (48, ag .u64 xs3), (52, ag .u64 zs3), (54, ag .u64 zs4)] ?_
          have q_ := hD191_13 zs104 b287 (by assumption) (by assumption)
          rw [hR_] at q_
          exact q_
        · skip
          refine ⟨(some 8), (.alloc 89), (bm 26 9960447), [6, 5, 4], (by kernel_rfl), (by kernel_rfl), ?_⟩
          refine (Step.al hU 5 40 z5 (fun b289 => ?_))
          have hl290 : (List.replicate 5 (0 : Int)).length = 5 := List.length_replicate
          refine orL ?_
          refine RunU.turn [blk b289 89 (nums .u64 (List.replicate 5 (0 : Int))), blk b102 89 (nums .u64 zs99), blk b58 89 (nums .u64 zs53), blk b56 89 (nums .u64 zs50), blk b9 89 (nums .u64 zs4), blk b7 89 (nums .u64 zs1), blk b 108 (nums .u64 us ++ (nums .u64 xs2 ++ (nums .u64 zs2 ++ (nums .u64 xs3 ++ nums .u64 zs3))))] (fun _ _ w hs => hs.pulls2 [0, 0, 0, 0, 0, 0, 0] _ (by kernel_rfl)) ?_
          refine RunU.ev [0, 4, 5, 6, 8, 42, 43, 48, 52, 54] [(0, pt b), (4, pt b56), (5, pt b58), (6, pt b102), (8, pt b289), (42, ag .u64 zs104), (43, ag .u64 zs1), (48, ag .u64 xs3), (52, ag .u64 zs3), (54, ag .u64 zs4)] ?_
          have q_ := hD191_14 zs104 b289 (by assumption) (by assumption)
          rw [hR_] at q_
          exact q_
      have hD191_17 : ∀ (b175 : Nat), R_ 7 (bm 26 5765887) [(0, pt b), (4, pt b56), (5, pt b58), (6, pt b102), (7, pt b175), (37, ag .u64 xs3), (41, ag .u64 zs3), (43, ag .u64 zs1), (48, ag .u64 xs3), (52, ag .u64 zs3), (54, ag .u64 zs4)] [blk b175 89 (nums .u64 (List.replicate 5 (0 : Int))), blk b102 89 (nums .u64 zs99), blk b58 89 (nums .u64 zs53), blk b56 89 (nums .u64 zs50), blk b9 89 (nums .u64 zs4), blk b7 89 (nums .u64 zs1), blk b 108 (nums .u64 us ++ (nums .u64 xs2 ++ (nums .u64 zs2 ++ (nums .u64 xs3 ++ nums .u64 zs3))))] := by
        intro b175
        rw [hR_]
        refine RunU.any [8, 23] (by kernel_rfl) rfl (all_cons (i := 8) ?_ (all_cons (i := 23) ?_ all_nil))
        · skip
          refine ⟨(some 42), (.call { callee := .value (.func 90), args := #[.tmp 37, .tmp 41], argTypes := #[89, 89] }), (bm 26 5766143), [6, 5, 4], (by kernel_rfl), (by kernel_rfl), ?_⟩
          refine (Step.cn 90 [ag .u64 xs3, ag .u64 zs3] [] [blk b175 89 (nums .u64 (List.replicate 5 (0 : Int))), blk b102 89 (nums .u64 zs99), blk b58 89 (nums .u64 zs53), blk b56 89 (nums .u64 zs50), blk b9 89 (nums .u64 zs4), blk b7 89 (nums .u64 zs1), blk b 108 (nums .u64 us ++ (nums .u64 xs2 ++ (nums .u64 zs2 ++ (nums .u64 xs3 ++ nums .u64 zs3))))] (f_Sub_spec xs3 x3 zs3 z3 (by assumption) (by assumption) (by assumption) (by assumption)) [] ?_)
          rintro _ _ ⟨zs291, rfl, rfl, hp292, hp293⟩
          refine orL ?_
          refine RunU.turn [blk b175 89 (nums .u64 (List.replicate 5 (0 : Int))), blk b102 89 (nums .u64 zs99), blk b58 89 (nums .u64 zs53), blk b56 89 (nums .u64 zs50), blk b9 89 (nums .u64 zs4), blk b7 89 (nums .u64 zs1), blk b 108 (nums .u64 us ++ (nums .u64 xs2 ++ (nums .u64 zs2 ++ (nums .u64 xs3 ++ nums .u64 zs3))))] (fun _ _ w hs => hs.pulls2 [0, 0, 0, 0, 0, 0, 0] _ (by kernel_rfl)) ?_
          refine RunU.ev [0, 4, 5, 6, 7, 42, 43, 48, 52, 54] [(0, pt b), (4, pt b56), (5, pt b58), (6, pt b102), (7, pt b175), (42, ag .u64 zs291), (43, ag .u64 zs1), (48, ag .u64 xs3), (52, ag .u64 zs3), (54, ag .u64 zs4)] ?_
          have q_ := hD191_13 zs291 b175 (by assumption) (by assumption)
          rw [hR_] at q_
          exact q_
        · skip
          refine ⟨(some 8), (.alloc 89), (bm 26 14154495), [7, 6, 5], (by kernel_rfl), (by kernel_rfl), ?_⟩
          refine (Step.al hU 5 40 z5 (fun b294 => ?_))
          have hl295 : (List.replicate 5 (0 : Int)).length = 5 := List.length_replicate
          refine orL ?_
          refine RunU.turn [blk b294 89 (nums .u64 (List.replicate 5 (0 : Int))), blk b175 89 (nums .u64 (List.replicate 5 (0 : Int))), blk b102 89 (nums .u64 zs99), blk b58 89 (nums .u64 zs53), blk b56 89 (nums .u64 zs50), blk b9 89 (nums .u64 zs4), blk b7 89 (nums .u64 zs1), blk b 108 (nums .u64 us ++ (nums .u64 xs2 ++ (nums .u64 zs2 ++ (nums .u64 xs3 ++ nums .u64 zs3))))] (fun _ _ w hs => hs.pulls2 [0, 0, 0, 0, 0, 0, 0, 0] _ (by kernel_rfl)) ?_
          refine RunU.ev [0, 4, 5, 6, 7, 8, 37, 41, 43, 48, 52, 54] [(0, pt b), (4, pt b56), (5, pt b58), (6, pt b102), (7, pt b175), (8, pt b294), (37, ag .u64 xs3), (41, ag .u64 zs3), (43, ag .u64 zs1), (48, ag .u64 xs3), (52, ag .u64 zs3), (54, ag .u64 zs4)] ?_
          have q_ := hD191_15 b175 b294
          rw [hR_] at q_
          exact q_
      have hD191_18 : ∀ (b185 : Nat), R_ 7 (bm 26 9960191) [(0, pt b), (4, pt b56), (5, pt b58), (6, pt b102), (8, pt b185), (37, ag .u64 xs3), (41, ag .u64 zs3), (43, ag .u64 zs1), (48, ag .u64 xs3), (52, ag .u64 zs3), (54, ag .u64 zs4)] [blk b185 89 (nums .u64 (List.replicate 5 (0 : Int))), blk b102 89 (nums .u64 zs99), blk b58 89 (nums .u64 zs53), blk b56 89 (nums .u64 zs50), blk b9 89 (nums .u64 zs4), blk b7 89 (nums .u64 zs1), blk b 108 (nums .u64 us ++ (nums .u64 xs2 ++ (nums .u64 zs2 ++ (nums .u64 xs3 ++ nums .u64 zs3))))] := by
        intro b185
        rw [hR_]
        refine RunU.any [8, 22] (by kernel_rfl) rfl (all_cons (i := 8) ?_ (all_cons (i := 22) ?_ all_nil))
        · skip
          refine ⟨(some 42), (.call { callee := .value (.func 90), args := #[.tmp 37, .tmp 41], argTypes := #[89, 89] }), (bm 26 9960447), [6, 5, 4], (by kernel_rfl), (by kernel_rfl), ?_⟩
          refine (Step.cn 90 [ag .u64 xs3, ag .u64 zs3] [] [blk b185 89 (nums .u64 (List.replicate 5 (0 : Int))), blk b102 89 (nums .u64 zs99), blk b58 89 (nums .u64 zs53), blk b56 89 (nums .u64 zs50), blk b9 89 (nums .u64 zs4), blk b7 89 (nums .u64 zs1), blk b 108 (nums .u64 us ++ (nums .u64 xs2 ++ (nums .u64 zs2 ++ (nums .u64 xs3 ++ nums .u64 zs3))))] (f_Sub_spec xs3 x3 zs3 z3 (by assumption) (by assumption) (by assumption) (by assumption)) [] ?_)
          rintro _ _ ⟨zs296, rfl, rfl, hp297, hp298⟩
          refine orL ?_
          refine RunU.turn [blk b185 89 (nums .u64 (List.replicate 5 (0 : Int))), blk b102 89 (nums .u64 zs99), blk b58 89 (nums .u64 zs53), blk b56 89 (nums .u64 zs50), blk b9 89 (nums .u64 zs4), blk b7 89 (nums .u64 zs1), blk b 108 (nums .u64 us ++ (nums .u64 xs2 ++ (nums .u64 zs2 ++ (nums .u64 xs3 ++ nums .u64 zs3))))] (fun _ _ w hs => hs.pulls2 [0, 0, 0, 0, 0, 0, 0] _ (by kernel_rfl)) ?_
          refine RunU.ev [0, 4, 5, 6, 8, 42, 43, 48, 52, 54] [(0, pt b), (4, pt b56), (5, pt b58), (6, pt b102), (8, pt b185), (42, ag .u64 zs296), (43, ag .u64 zs1), (48, ag .u64 xs3), (52, ag .u64 zs3), (54, ag .u64 zs4)] ?_
          have q_ := hD191_14 zs296 b185 (by assumption) (by assumption)
          rw [hR_] at q_
          exact q_
        · skip
          refine ⟨(some 7), (.alloc 89), (bm 26 14154495), [7, 6, 5], (by kernel_rfl), (by kernel_rfl), ?_⟩
          refine (Step.al hU 5 40 z5 (fun b299 => ?_))
          have hl300 : (List.replicate 5 (0 : Int)).length = 5 := List.length_replicate
          refine orL ?_
          refine RunU.turn [blk b185 89 (nums .u64 (List.replicate 5 (0 : Int))), blk b299 89 (nums .u64 (List.replicate 5 (0 : Int))), blk b102 89 (nums .u64 zs99), blk b58 89 (nums .u64 zs53), blk b56 89 (nums .u64 zs50), blk b9 89 (nums .u64 zs4), blk b7 89 (nums .u64 zs1), blk b 108 (nums .u64 us ++ (nums .u64 xs2 ++ (nums .u64 zs2 ++ (nums .u64 xs3 ++ nums .u64 zs3))))] (fun _ _ w hs => hs.pulls2 [1, 0, 0, 0, 0, 0, 0, 0] _ (by kernel_rfl)) ?_
          refine RunU.ev [0, 4, 5, 6, 7, 8, 37, 41, 43, 48, 52, 54] [(0, pt b), (4, pt b56), (5, pt b58), (6, pt b102), (7, pt b299), (8, pt b185), (37, ag .u64 xs3), (41, ag .u64 zs3), (43, ag .u64 zs1), (48, ag .u64 xs3), (52, ag .u64 zs3), (54, ag .u64 zs4)] ?_
          have q_ := hD191_15 b299 b185
          rw [hR_] at q_
          exact q_
      have hD191_19 : R_ 8 (bm 26 1571583) [(0, pt b), (4, pt b56), (5, pt b58), (6, pt b102), (37, ag .u64 xs3), (41, ag .u64 zs3), (43, ag .u64 zs1), (48, ag .u64 xs3), (52, ag .u64 zs3), (54, ag .u64 zs4)] [blk b102 89 (nums .u64 zs99), blk b58 89 (nums .u64 zs53), blk b56 89 (nums .u64 zs50), blk b9 89 (nums .u64 zs4), blk b7 89 (nums .u64 zs1), blk b 108 (nums .u64 us ++ (nums .u64 xs2 ++ (nums .u64 zs2 ++ (nums .u64 xs3 ++ nums .u64 zs3))))] := by
        rw [hR_]
        refine RunU.any [8, 22, 23] (by kernel_rfl) rfl (all_cons (i := 8) ?_ (all_cons (i := 22) ?_ (all_cons (i := 23) ?_ all_nil)))
        · skip
          refine ⟨(some 42), (.call { callee := .value (.func 90), args := #[.tmp 37, .tmp 41], argTypes := #[89, 89] }), (bm 26 1571839), [5, 4, 3], (by kernel_rfl), (by kernel_rfl), ?_⟩
          refine (Step.cn 90 [ag .u64 xs3, ag .u64 zs3] [] [blk b102 89 (nums .u64 zs99), blk b58 89 (nums .u64 zs53), blk b56 89 (nums .u64 zs50), blk b9 89 (nums .u64 zs4), blk b7 89 (nums .u64 zs1), blk b 108 (nums .u64 us ++ (nums .u64 xs2 ++ (nums .u64 zs2 ++ (nums .u64 xs3 ++ nums .u64 zs3))))] (f_Sub_spec xs3 x3 zs3 z3 (by assumption) (by assumption) (by assumption) (by assumption)) [] ?_)
          rintro _ _ ⟨zs301, rfl, rfl, hp302, hp303⟩
          refine orL ?_
          refine RunU.turn [blk b102 89 (nums .u64 zs99), blk b58 89 (nums .u64 zs53), blk b56 89 (nums .u64 zs50), blk b9 89 (nums .u64 zs4), blk b7 89 (nums .u64 zs1), blk b 108 (nums .u64 us ++ (nums .u64 xs2 ++ (nums .u64 zs2 ++ (nums .u64 xs3 ++ nums .u64 zs3))))] (fun _ _ w hs => hs.pulls2 [0, 0, 0, 0, 0, 0] _ (by kernel_rfl)) ?_
          refine RunU.ev [0, 4, 5, 6, 42, 43, 48, 52, 54] [(0, pt b), (4, pt b56), (5, pt b58), (6, pt b102), (42, ag .u64 zs301), (43, ag .u64 zs1), (48, ag .u64 xs3), (52, ag .u64 zs3), (54, ag .u64 zs4)] ?_
          have q_ := hD191_16 zs301 (by assumption) (by assumption)
          rw [hR_] at q_
          exact q_
        · skip
          refine ⟨(some 7), (.alloc 89), (bm 26 5765887), [6, 5, 4], (by kernel_rfl), (by kernel_rfl), ?_⟩
          refine (Step.al hU 5 40 z5 (fun b304 => ?_))
          have hl305 : (List.replicate 5 (0 : Int)).length = 5 := List.length_replicate
          refine orL ?_
          refine RunU.turn [blk b304 89 (nums .u64 (List.replicate 5 (0 : Int))), blk b102 89 (nums .u64 zs99), blk b58 89 (nums .u64 zs53), blk b56 89 (nums .u64 zs50), blk b9 89 (nums .u64 zs4), blk b7 89 (nums .u64 zs1), blk b 108 (nums .u64 us ++ (nums .u64 xs2 ++ (nums .u64 zs2 ++ (nums .u64 xs3 ++ nums .u64 zs3))))] (fun _ _ w hs => hs.pulls2 [0, 0, 0, 0, 0, 0, 0] _ (by kernel_rfl)) ?_
          refine RunU.ev [0, 4, 5, 6, 7, 37, 41, 43, 48, 52, 54] [(0, pt b), (4, pt b56), (5, pt b58), (6, pt b102), (7, pt b304), (37, ag .u64 xs3), (41, ag .u64 zs3), (43, ag .u64 zs1), (48, ag .u64 xs3), (52, ag .u64 zs3), (54, ag .u64 zs4)] ?_
          have q_ := hD191_17 b304
          rw [hR_] at q_
          exact q_
        · skip
          refine ⟨(some 8), (.alloc 89), (bm 26 9960191), [6, 5, 4], (by kernel_rfl), (by kernel_rfl), ?_⟩
          refine (Step.al hU 5 40 z5 (fun b306 => ?_))
          have hl307 : (List.replicate 5 (0 : Int)).length = 5 := List.length_replicate
          refine orL ?_
          refine RunU.turn [blk b306 89 (nums .u64 (List.replicate 5 (0 : Int))), blk b102 89 (nums .u64 zs99), blk b58 89 (nums .u64 zs53), blk b56 89 (nums .u64 zs50), blk b9 89 (nums .u64 zs4), blk b7 89 (nums .u64 zs1), blk b 108 (nums .u64 us ++ (nums .u64 xs2 ++ (nums .u64 zs2 ++ (nums .u64 xs3 ++ nums .u64 zs3))))] (fun _ _ w hs => hs.pulls2 [0, 0, 0, 0, 0, 0, 0] _ (by kernel_rfl)) ?_
          refine RunU.ev [0, 4, 5, 6, 8, 37, 41, 43, 48, 52, 54] [(0, pt b), (4, pt b56), (5, pt b58), (6, pt b102), (8, pt b306), (37, ag .u64 xs3), (41, ag .u64 zs3), (43, ag .u64 zs1), (48, ag .u64 xs3), (52, ag .u64 zs3), (54, ag .u64 zs4)] ?_
          have q_ := hD191_18 b306
          rw [hR_] at q_
          exact q_
      exact hD191_19
    have hD97_1 : ∀ (zs50 : List Int) (zs53 : List Int) (b56 : Nat), El zs50 ((((x2 + z2) % P) * ((x2 + z2) % P)) % P) → zs50.length = 5 → El zs53 ((((x2 - z2) % P) * ((x2 - z2) % P)) % P) → zs53.length = 5 → R_ 3 (bm 8 31) [(0, pt b), (2, pt b7), (3, pt b9), (4, pt b56), (28, ag .u64 zs50), (30, ag .u64 zs53)] [blk b56 89 (nums .u64 (List.replicate 5 (0 : Int))), blk b9 89 (nums .u64 zs4), blk b7 89 (nums .u64 zs1), blk b 108 (nums .u64 us ++ (nums .u64 xs2 ++ (nums .u64 zs2 ++ (nums .u64 xs3 ++ nums .u64 zs3))))] := by
      intro zs50 zs53 b56 hp51 hp52 hp54 hp55
      rw [hR_]
      refine RunU.any [5] (by kernel_rfl) rfl (all_cons (i := 5) ?_ all_nil)
      · skip
        refine ⟨(some 5), (.alloc 89), (bm 8 63), [3, 2], (by kernel_rfl), (by kernel_rfl), ?_⟩
        refine (Step.al hU 5 40 z5 (fun b308 => ?_))
        have hl309 : (List.replicate 5 (0 : Int)).length = 5 := List.length_replicate
        refine orL ?_
        refine RunU.turn [blk b308 89 (nums .u64 (List.replicate 5 (0 : Int))), blk b56 89 (nums .u64 (List.replicate 5 (0 : Int))), blk b9 89 (nums .u64 zs4), blk b7 89 (nums .u64 zs1), blk b 108 (nums .u64 us ++ (nums .u64 xs2 ++ (nums .u64 zs2 ++ (nums .u64 xs3 ++ nums .u64 zs3))))] (fun _ _ w hs => hs.pulls2 [0, 0, 0, 0, 0] _ (by kernel_rfl)) ?_
        refine RunU.ev [0, 2, 3, 4, 5, 28, 30] [(0, pt b), (2, pt b7), (3, pt b9), (4, pt b56), (5, pt b308), (28, ag .u64 zs50), (30, ag .u64 zs53)] ?_
        have q_ := hD97_0 zs50 zs53 b56 b308 (by assumption) (by assumption) (by assumption) (by assumption)
        rw [hR_] at q_
        exact q_
    have hD97_2 : ∀ (zs50 : List Int) (zs53 : List Int) (b60 : Nat), El zs50 ((((x2 + z2) % P) * ((x2 + z2) % P)) % P) → zs50.length = 5 → El zs53 ((((x2 - z2) % P) * ((x2 - z2) % P)) % P) → zs53.length = 5 → R_ 3 (bm 8 47) [(0, pt b), (2, pt b7), (3, pt b9), (5, pt b60), (28, ag .u64 zs50), (30, ag .u64 zs53)] [blk b60 89 (nums .u64 (List.replicate 5 (0 : Int))), blk b9 89 (nums .u64 zs4), blk b7 89 (nums .u64 zs1), blk b 108 (nums .u64 us ++ (nums .u64 xs2 ++ (nums .u64 zs2 ++ (nums .u64 xs3 ++ nums .u64 zs3))))] := by
      intro zs50 zs53 b60 hp51 hp52 hp54 hp55
      rw [hR_]
      refine RunU.any [4] (by kernel_rfl) rfl (all_cons (i := 4) ?_ all_nil)
      · skip
        refine ⟨(some 4), (.alloc 89), (bm 8 63), [3, 2], (by kernel_rfl), (by kernel_rfl), ?_⟩
        refine (Step.al hU 5 40 z5 (fun b310 => ?_))
        have hl311 : (List.replicate 5 (0 : Int)).length = 5 := List.length_replicate
        refine orL ?_
        refine RunU.turn [blk b60 89 (nums .u64 (List.replicate 5 (0 : Int))), blk b310 89 (nums .u64 (List.replicate 5 (0 : Int))), blk b9 89 (nums .u64 zs4), blk b7 89 (nums .u64 zs1), blk b 108 (nums .u64 us ++ (nums .u64 xs2 ++ (nums .u64 zs2 ++ (nums .u64 xs3 ++ nums .u64 zs3))))] (fun _ _ w hs => hs.pulls2 [1, 0, 0, 0, 0] _ (by kernel_rfl)) ?_
        refine RunU.ev [0, 2, 3, 4, 5, 28, 30] [(0, pt b), (2, pt b7), (3, pt b9), (4, pt b310), (5, pt b60), (28, ag .u64 zs50), (30, ag .u64 zs53)] ?_
        have q_ := hD97_0 zs50 zs53 b310 b60 (by assumption) (by assumption) (by assumption) (by assumption)
        rw [hR_] at q_
        exact q_
    have hD97_3 : ∀ (zs50 : List Int) (b64 : Nat) (b69 : Nat), El zs50 ((((x2 + z2) % P) * ((x2 + z2) % P)) % P) → zs50.length = 5 → R_ 3 (bm 8 55) [(0, pt b), (2, pt b7), (3, pt b9), (4, pt b64), (5, pt b69), (28, ag .u64 zs50), (29, ag .u64 zs4)] [blk b69 89 (nums .u64 (List.replicate 5 (0 : Int))), blk b64 89 (nums .u64 (List.replicate 5 (0 : Int))), blk b9 89 (nums .u64 zs4), blk b7 89 (nums .u64 zs1), blk b 108 (nums .u64 us ++ (nums .u64 xs2 ++ (nums .u64 zs2 ++ (nums .u64 xs3 ++ nums .u64 zs3))))] := by
      intro zs50 b64 b69 hp51 hp52
      rw [hR_]
      refine RunU.any [3] (by kernel_rfl) rfl (all_cons (i := 3) ?_ all_nil)
      · skip
        refine ⟨(some 30), (.call { callee := .value (.func 91), args := #[.tmp 29], argTypes := #[89] }), (bm 8 63), [], (by kernel_rfl), (by kernel_rfl), ?_⟩
        refine (Step.cn 91 [ag .u64 zs4] [] [blk b69 89 (nums .u64 (List.replicate 5 (0 : Int))), blk b64 89 (nums .u64 (List.replicate 5 (0 : Int))), blk b9 89 (nums .u64 zs4), blk b7 89 (nums .u64 zs1), blk b 108 (nums .u64 us ++ (nums .u64 xs2 ++ (nums .u64 zs2 ++ (nums .u64 xs3 ++ nums .u64 zs3))))] (f_Square_spec zs4 ((x2 - z2) % P) (by assumption) (by assumption)) [] ?_)
        rintro _ _ ⟨zs312, rfl, rfl, hp313, hp314⟩
        refine orR ?_
        refine RunU.turn [blk b69 89 (nums .u64 (List.replicate 5 (0 : Int))), blk b64 89 (nums .u64 (List.replicate 5 (0 : Int))), blk b9 89 (nums .u64 zs4), blk b7 89 (nums .u64 zs1), blk b 108 (nums .u64 us ++ (nums .u64 xs2 ++ (nums .u64 zs2 ++ (nums .u64 xs3 ++ nums .u64 zs3))))] (fun _ _ w hs => hs.pulls2 [0, 0, 0, 0, 0] _ (by kernel_rfl)) ?_
        refine RunU.ev [0, 2, 3, 4, 5, 28, 30] [(0, pt b), (2, pt b7), (3, pt b9), (4, pt b64), (5, pt b69), (28, ag .u64 zs50), (30, ag .u64 zs312)] ?_
        have q_ := hD97_0 zs50 zs312 b64 b69 (by assumption) (by assumption) (by assumption) (by assumption)
        rw [hR_] at q_
        exact q_
    have hD97_4 : ∀ (zs50 : List Int) (zs53 : List Int), El zs50 ((((x2 + z2) % P) * ((x2 + z2) % P)) % P) → zs50.length = 5 → El zs53 ((((x2 - z2) % P) * ((x2 - z2) % P)) % P) → zs53.length = 5 → R_ 4 (bm 8 15) [(0, pt b), (2, pt b7), (3, pt b9), (28, ag .u64 zs50), (30, ag .u64 zs53)] [blk b9 89 (nums .u64 zs4), blk b7 89 (nums .u64 zs1), blk b 108 (nums .u64 us ++ (nums .u64 xs2 ++ (nums .u64 zs2 ++ (nums .u64 xs3 ++ nums .u64 zs3))))] := by
      intro zs50 zs53 hp51 hp52 hp54 hp55
      rw [hR_]
      refine RunU.any [4, 5] (by kernel_rfl) rfl (all_cons (i := 4) ?_ (all_cons (i := 5) ?_ all_nil))
      · skip
        refine ⟨(some 4), (.alloc 89), (bm 8 31), [2, 1], (by kernel_rfl), (by kernel_rfl), ?_⟩
        refine (Step.al hU 5 40 z5 (fun b315 => ?_))
        have hl316 : (List.replicate 5 (0 : Int)).length = 5 := List.length_replicate
        refine orL ?_
        refine RunU.turn [blk b315 89 (nums .u64 (List.replicate 5 (0 : Int))), blk b9 89 (nums .u64 zs4), blk b7 89 (nums .u64 zs1), blk b 108 (nums .u64 us ++ (nums .u64 xs2 ++ (nums .u64 zs2 ++ (nums .u64 xs3 ++ nums .u64 zs3))))] (fun _ _ w hs => hs.pulls2 [0, 0, 0, 0] _ (by kernel_rfl)) ?_
        refine RunU.ev [0, 2, 3, 4, 28, 30] [(0, pt b), (2, pt b7), (3, pt b9), (4, pt b315), (28, ag .u64 zs50), (30, ag .u64 zs53)] ?_
        have q_ := hD97_1 zs50 zs53 b315 (by assumption) (by assumption) (by assumption) (by assumption)
        rw [hR_] at q_
        exact q_
      · skip
        refine ⟨(some 5), (.alloc 89), (bm 8 47), [2, 1], (by kernel_rfl), (by kernel_rfl), ?_⟩
        refine (Step.al hU 5 40 z5 (fun b317 => ?_))
        have hl318 : (List.replicate 5 (0 : Int)).length = 5 := List.length_replicate
        refine orL ?_
        refine RunU.turn [blk b317 89 (nums .u64 (List.replicate 5 (0 : Int))), blk b9 89 (nums .u64 zs4), blk b7 89 (nums .u64 zs1), blk b 108 (nums .u64 us ++ (nums .u64 xs2 ++ (nums .u64 zs2 ++ (nums .u64 xs3 ++ nums .u64 zs3))))] (fun _ _ w hs => hs.pulls2 [0, 0, 0, 0] _ (by kernel_rfl)) ?_
        refine RunU.ev [0, 2, 3, 5, 28, 30] [(0, pt b), (2, pt b7), (3, pt b9), (5, pt b317), (28, ag .u64 zs50), (30, ag .u64 zs53)] ?_
        have q_ := hD97_2 zs50 zs53 b317 (by assumption) (by assumption) (by assumption) (by assumption)
        rw [hR_] at q_
        exact q_
    have hD97_5 : ∀ (zs50 : List Int) (b64 : Nat), El zs50 ((((x2 + z2) % P) * ((x2 + z2) % P)) % P) → zs50.length = 5 → R_ 4 (bm 8 23) [(0, pt b), (2, pt b7), (3, pt b9), (4, pt b64), (28, ag .u64 zs50), (29, ag .u64 zs4)] [blk b64 89 (nums .u64 (List.replicate 5 (0 : Int))), blk b9 89 (nums .u64 zs4), blk b7 89 (nums .u64 zs1), blk b 108 (nums .u64 us ++ (nums .u64 xs2 ++ (nums .u64 zs2 ++ (nums .u64 xs3 ++ nums .u64 zs3))))] := by
      intro zs50 b64 hp51 hp52
      rw [hR_]
      refine RunU.any [3, 5] (by kernel_rfl) rfl (all_cons (i := 3) ?_ (all_cons (i := 5) ?_ all_nil))
      · skip
        refine ⟨(some 30), (.call { callee := .value (.func 91), args := #[.tmp 29], argTypes := #[89] }), (bm 8 31), [], (by kernel_rfl), (by kernel_rfl), ?_⟩
        refine (Step.cn 91 [ag .u64 zs4] [] [blk b64 89 (nums .u64 (List.replicate 5 (0 : Int))), blk b9 89 (nums .u64 zs4), blk b7 89 (nums .u64 zs1), blk b 108 (nums .u64 us ++ (nums .u64 xs2 ++ (nums .u64 zs2 ++ (nums .u64 xs3 ++ nums .u64 zs3))))] (f_Square_spec zs4 ((x2 - z2) % P) (by assumption) (by assumption)) [] ?_)
        rintro _ _ ⟨zs319, rfl, rfl, hp320, hp321⟩
        refine orR ?_
        refine RunU.turn [blk b64 89 (nums .u64 (List.replicate 5 (0 : Int))), blk b9 89 (nums .u64 zs4), blk b7 89 (nums .u64 zs1), blk b 108 (nums .u64 us ++ (nums .u64 xs2 ++ (nums .u64 zs2 ++ (nums .u64 xs3 ++ nums .u64 zs3))))] (fun _ _ w hs => hs.pulls2 [0, 0, 0, 0] _ (by kernel_rfl)) ?_
        refine RunU.ev [0, 2, 3, 4, 28, 30] [(0, pt b), (2, pt b7), (3, pt b9), (4, pt b64), (28, ag .u64 zs50), (30, ag .u64 zs319)] ?_
        have q_ := hD97_1 zs50 zs319 b64 (by assumption) (by assumption) (by assumption) (by assumption)
        rw [hR_] at q_
        exact q_
      · skip
        refine ⟨(some 5), (.alloc 89), (bm 8 55), [3, 2], (by kernel_rfl), (by kernel_rfl), ?_⟩
        refine (Step.al hU 5 40 z5 (fun b322 => ?_))
        have hl323 : (List.replicate 5 (0 : Int)).length = 5 := List.length_replicate
        refine orL ?_
        refine RunU.turn [blk b322 89 (nums .u64 (List.replicate 5 (0 : Int))), blk b64 89 (nums .u64 (List.replicate 5 (0 : Int))), blk b9 89 (nums .u64 zs4), blk b7 89 (nums .u64 zs1), blk b 108 (nums .u64 us ++ (nums .u64 xs2 ++ (nums .u64 zs2 ++ (nums .u64 xs3 ++ nums .u64 zs3))))] (fun _ _ w hs => hs.pulls2 [0, 0, 0, 0, 0] _ (by kernel_rfl)) ?_
        refine RunU.ev [0, 2, 3, 4, 5, 28, 29] [(0, pt b), (2, pt b7), (3, pt b9), (4, pt b64), (5, pt b322), (28, ag .u64 zs50), (29, ag .u64 zs4)] ?_
        have q_ := hD97_3 zs50 b64 b322 (by assumption) (by assumption)
        rw [hR_] at q_
        exact q_
    have hD97_6 : ∀ (zs50 : List Int) (b74 : Nat), El zs50 ((((x2 + z2) % P) * ((x2 + z2) % P)) % P) → zs50.length = 5 → R_ 4 (bm 8 39) [(0, pt b), (2, pt b7), (3, pt b9), (5, pt b74), (28, ag .u64 zs50), (29, ag .u64 zs4)] [blk b74 89 (nums .u64 (List.replicate 5 (0 : Int))), blk b9 89 (nums .u64 zs4), blk b7 89 (nums .u64 zs1), blk b 108 (nums .u64 us ++ (nums .u64 xs2 ++ (nums .u64 zs2 ++ (nums .u64 xs3 ++ nums .u64 zs3))))] := by
      intro zs50 b74 hp51 hp52
      rw [hR_]
      refine RunU.any [3, 4] (by kernel_rfl) rfl (all_cons (i := 3) ?_ (all_cons (i := 4) ?_ all_nil))
      · skip
        refine ⟨(some 30), (.call { callee := .value (.func 91), args := #[.tmp 29], argTypes := #[89] }), (bm 8 47), [], (by kernel_rfl), (by kernel_rfl), ?_⟩
        refine (Step.cn 91 [ag .u64 zs4] [] [blk b74 89 (nums .u64 (List.replicate 5 (0 : Int))), blk b9 89 (nums .u64 zs4), blk b7 89 (nums .u64 zs1), blk b 108 (nums .u64 us ++ (nums .u64 xs2 ++ (nums .u64 zs2 ++ (nums .u64 xs3 ++ nums .u64 zs3))))] (f_Square_spec zs4 ((x2 - z2) % P) (by assumption) (by assumption)) [] ?_)
        rintro _ _ ⟨zs324, rfl, rfl, hp325, hp326⟩
        refine orR ?_
        refine RunU.turn [blk b74 89 (nums .u64 (List.replicate 5 (0 : Int))), blk b9 89 (nums .u64 zs4), blk b7 89 (nums .u64 zs1), blk b 108 (nums .u64 us ++ (nums .u64 xs2 ++ (nums .u64 zs2 ++ (nums .u64 xs3 ++ nums .u64 zs3))))] (fun _ _ w hs => hs.pulls2 [0, 0, 0, 0] _ (by kernel_rfl)) ?_
        refine RunU.ev [0, 2, 3, 5, 28, 30] [(0, pt b), (2, pt b7), (3, pt b9), (5, pt b74), (28, ag .u64 zs50), (30, ag .u64 zs324)] ?_
        have q_ := hD97_2 zs50 zs324 b74 (by assumption) (by assumption) (by assumption) (by assumption)
        rw [hR_] at q_
        exact q_
      · skip
        refine ⟨(some 4), (.alloc 89), (bm 8 55), [3, 2], (by kernel_rfl), (by kernel_rfl), ?_⟩
        refine (Step.al hU 5 40 z5 (fun b327 => ?_))
        have hl328 : (List.replicate 5 (0 : Int)).length = 5 := List.length_replicate
        refine orL ?_
        refine RunU.turn [blk b74 89 (nums .u64 (List.replicate 5 (0 : Int))), blk b327 89 (nums .u64 (List.replicate 5 (0 : Int))), blk b9 89 (nums .u64 zs4), blk b7 89 (nums .u64 zs1), blk b 108 (nums .u64 us ++ (nums .u64 xs2 ++ (nums .u64 zs2 ++ (nums .u64 xs3 ++ nums .u64 zs3))))] (fun _ _ w hs => hs.pulls2 [1, 0, 0, 0, 0] _ (by kernel_rfl)) ?_
        refine RunU.ev [0, 2, 3, 4, 5, 28, 29] [(0, pt b), (2, pt b7), (3, pt b9), (4, pt b327), (5, pt b74), (28, ag .u64 zs50), (29, ag .u64 zs4)] ?_
        have q_ := hD97_3 zs50 b327 b74 (by assumption) (by assumption)
        rw [hR_] at q_
        exact q_
    have hD97_7 : ∀ (b81 : Nat) (b86 : Nat), R_ 4 (bm 8 53) [(0, pt b), (2, pt b7), (3, pt b9), (4, pt b81), (5, pt b86), (27, ag .u64 zs1), (29, ag .u64 zs4)] [blk b86 89 (nums .u64 (List.replicate 5 (0 : Int))), blk b81 89 (nums .u64 (List.replicate 5 (0 : Int))), blk b9 89 (nums .u64 zs4), blk b7 89 (nums .u64 zs1), blk b 108 (nums .u64 us ++ (nums .u64 xs2 ++ (nums .u64 zs2 ++ (nums .u64 xs3 ++ nums .u64 zs3))))] := by
      intro b81 b86
      rw [hR_]
      refine RunU.any [1] (by kernel_rfl) rfl (all_cons (i := 1) ?_ all_nil)
      · skip
        refine ⟨(some 28), (.call { callee := .value (.func 91), args := #[.tmp 27], argTypes := #[89] }), (bm 8 55), [3, 2], (by kernel_rfl), (by kernel_rfl), ?_⟩
        refine (Step.cn 91 [ag .u64 zs1] [] [blk b86 89 (nums .u64 (List.replicate 5 (0 : Int))), blk b81 89 (nums .u64 (List.replicate 5 (0 : Int))), blk b9 89 (nums .u64 zs4), blk b7 89 (nums .u64 zs1), blk b 108 (nums .u64 us ++ (nums .u64 xs2 ++ (nums .u64 zs2 ++ (nums .u64 xs3 ++ nums .u64 zs3))))] (f_Square_spec zs1 ((x2 + z2) % P) (by assumption) (by assumption)) [] ?_)
        rintro _ _ ⟨zs329, rfl, rfl, hp330, hp331⟩
        refine orL ?_
        refine RunU.turn [blk b86 89 (nums .u64 (List.replicate 5 (0 : Int))), blk b81 89 (nums .u64 (List.replicate 5 (0 : Int))), blk b9 89 (nums .u64 zs4), blk b7 89 (nums .u64 zs1), blk b 108 (nums .u64 us ++ (nums .u64 xs2 ++ (nums .u64 zs2 ++ (nums .u64 xs3 ++ nums .u64 zs3))))] (fun _ _ w hs => hs.pulls2 [0, 0, 0, 0, 0] _ (by kernel_rfl)) ?_
        refine RunU.ev [0, 2, 3, 4, 5, 28, 29] [(0, pt b), (2, pt b7), (3, pt b9), (4, pt b81), (5, pt b86), (28, ag .u64 zs329), (29, ag .u64 zs4)] ?_
        have q_ := hD97_3 zs329 b81 b86 (by assumption) (by assumption)
        rw [hR_] at q_
        exact q_
    have hD97_8 : ∀ (zs50 : List Int), El zs50 ((((x2 + z2) % P) * ((x2 + z2) % P)) % P) → zs50.length = 5 → R_ 5 (bm 8 7) [(0, pt b), (2, pt b7), (3, pt b9), (28, ag .u64 zs50), (29, ag .u64 zs4)] [blk b9 89 (nums .u64 zs4), blk b7 89 (nums .u64 zs1), blk b 108 (nums .u64 us ++ (nums .u64 xs2 ++ (nums .u64 zs2 ++ (nums .u64 xs3 ++ nums .u64 zs3))))] := by
      intro zs50 hp51 hp52
      rw [hR_]
      refine RunU.any [3, 4, 5] (by kernel_rfl) rfl (all_cons (i := 3) ?_ (all_cons (i := 4) ?_ (all_cons (i := 5) ?_ all_nil)))
      · skip
        refine ⟨(some 30), (.call { callee := .value (.func 91), args := #[.tmp 29], argTypes := #[89] }), (bm 8 15), [], (by kernel_rfl), (by kernel_rfl), ?_⟩
        refine (Step.cn 91 [ag .u64 zs4] [] [blk b9 89 (nums .u64 zs4), blk b7 89 (nums .u64 zs1), blk b 108 (nums .u64 us ++ (nums .u64 xs2 ++ (nums .u64 zs2 ++ (nums .u64 xs3 ++ nums .u64 zs3))))] (f_Square_spec zs4 ((x2 - z2) % P) (by assumption) (by assumption)) [] ?_)
        rintro _ _ ⟨zs332, rfl, rfl, hp333, hp334⟩
        refine orR ?_
        refine RunU.turn [blk b9 89 (nums .u64 zs4), blk b7 89 (nums .u64 zs1), blk b 108 (nums .u64 us ++ (nums .u64 xs2 ++ (nums .u64 zs2 ++ (nums .u64 xs3 ++ nums .u64 zs3))))] (fun _ _ w hs => hs.pulls2 [0, 0, 0] _ (by kernel_rfl)) ?_
        refine RunU.ev [0, 2, 3, 28, 30] [(0, pt b), (2, pt b7), (3, pt b9), (28, ag .u64 zs50), (30, ag .u64 zs332)] ?_
        have q_ := hD97_4 zs50 zs332 (by assumption) (by assumption) (by assumption) (by assumption)
        rw [hR_] at q_
        exact q_
      · skip
        refine ⟨(some 4), (.alloc 89), (bm 8 23), [2, 1], (by kernel_rfl), (by kernel_rfl), ?_⟩
        refine (Step.al hU 5 40 z5 (fun b335 => ?_))
        have hl336 : (List.replicate 5 (0 : Int)).length = 5 := List.length_replicate
        refine orL ?_
        refine RunU.turn [blk b335 89 (nums .u64 (List.replicate 5 (0 : Int))), blk b9 89 (nums .u64 zs4), blk b7 89 (nums .u64 zs1), blk b 108 (nums .u64 us ++ (nums .u64 xs2 ++ (nums .u64 zs2 ++ (nums .u64 xs3 ++ nums .u64 zs3))))] (fun _ _ w hs => hs.pulls2 [0, 0, 0, 0] _ (by kernel_rfl)) ?_
        refine RunU.ev [0, 2, 3, 4, 28, 29] [(0, pt b), (2, pt b7), (3, pt b9), (4, pt b335), (28, ag .u64 zs50), (29, ag .u64 zs4)] ?_
        have q_ := hD97_5 zs50 b335 (by assumption) (by assumption)
        rw [hR_] at q_
        exact q_
      · skip
        refine ⟨(some 5), (.alloc 89), (bm 8 39), [2, 1], (by kernel_rfl), (by kernel_rfl), ?_⟩
        refine (Step.al hU 5 40 z5 (fun b337 => ?_))
        have hl338 : (List.replicate 5 (0 : Int)).length = 5 := List.length_replicate
        refine orL ?_
        refine RunU.turn [blk b337 89 (nums .u64 (List.replicate 5 (0 : Int))), blk b9 89 (nums .u64 zs4), blk b7 89 (nums .u64 zs1), blk b 108 (nums .u64 us ++ (nums .u64 xs2 ++ (nums .u64 zs2 ++ (nums .u64 xs3 ++ nums .u64 zs3))))] (fun _ _ w hs => hs.pulls2 [0, 0, 0, 0] _ (by kernel_rfl)) ?_
        refine RunU.ev [0, 2, 3, 5, 28, 29] [(0, pt b), (2, pt b7), (3, pt b9), (5, pt b337), (28, ag .u64 zs50), (29, ag .u64 zs4)] ?_
        have q_ := hD97_6 zs50 b337 (by assumption) (by assumption)
        rw [hR_] at q_
        exact q_
    have hD97_9 : ∀ (b81 : Nat), R_ 5 (bm 8 21) [(0, pt b), (2, pt b7), (3, pt b9), (4, pt b81), (27, ag .u64 zs1), (29, ag .u64 zs4)] [blk b81 89 (nums .u64 (List.replicate 5 (0 : Int))), blk b9 89 (nums .u64 zs4), blk b7 89 (nums .u64 zs1), blk b 108 (nums .u64 us ++ (nums .u64 xs2 ++ (nums .u64 zs2 ++ (nums .u64 xs3 ++ nums .u64 zs3))))] := by
      intro b81
      rw [hR_]
      refine RunU.any [1, 5] (by kernel_rfl) rfl (all_cons (i := 1) ?_ (all_cons (i := 5) ?_ all_nil))
      · skip
        refine ⟨(some 28), (.call { callee := .value (.func 91), args := #[.tmp 27], argTypes := #[89] }), (bm 8 23), [2, 1], (by kernel_rfl), (by kernel_rfl), ?_⟩
        refine (Step.cn 91 [ag .u64 zs1] [] [blk b81 89 (nums .u64 (List.replicate 5 (0 : Int))), blk b9 89 (nums .u64 zs4), blk b7 89 (nums .u64 zs1), blk b 108 (nums .u64 us ++ (nums .u64 xs2 ++ (nums .u64 zs2 ++ (nums .u64 xs3 ++ nums .u64 zs3))))] (f_Square_spec zs1 ((x2 + z2) % P) (by assumption) (by assumption)) [] ?_)
        rintro _ _ ⟨zs339, rfl, rfl, hp340, hp341⟩
        refine orL ?_
        refine RunU.turn [blk b81 89 (nums .u64 (List.replicate 5 (0 : Int))), blk b9 89 (nums .u64 zs4), blk b7 89 (nums .u64 zs1), blk b 108 (nums .u64 us ++ (nums .u64 xs2 ++ (nums .u64 zs2 ++ (nums .u64 xs3 ++ nums .u64 zs3))))] (fun _ _ w hs => hs.pulls2 [0, 0, 0, 0] _ (by kernel_rfl)) ?_
        refine RunU.ev [0, 2, 3, 4, 28, 29] [(0, pt b), (2, pt b7), (3, pt b9), (4, pt b81), (28, ag .u64 zs339), (29, ag .u64 zs4)] ?_
        have q_ := hD97_5 zs339 b81 (by assumption) (by assumption)
        rw [hR_] at q_
        exact q_
      · skip
        refine ⟨(some 5), (.alloc 89), (bm 8 53), [3, 2], (by kernel_rfl), (by kernel_rfl), ?_⟩
        refine (Step.al hU 5 40 z5 (fun b342 => ?_))
        have hl343 : (List.replicate 5 (0 : Int)).length = 5 := List.length_replicate
        refine orL ?_
        refine RunU.turn [blk b342 89 (nums .u64 (List.replicate 5 (0 : Int))), blk b81 89 (nums .u64 (List.replicate 5 (0 : Int))), blk b9 89 (nums .u64 zs4), blk b7 89 (nums .u64 zs1), blk b 108 (nums .u64 us ++ (nums .u64 xs2 ++ (nums .u64 zs2 ++ (nums .u64 xs3 ++ nums .u64 zs3))))] (fun _ _ w hs => hs.pulls2 [0, 0, 0, 0, 0] _ (by kernel_rfl)) ?_
        refine RunU.ev [0, 2, 3, 4, 5, 27, 29] [(0, pt b), (2, pt b7), (3, pt b9), (4, pt b81), (5, pt b342), (27, ag .u64 zs1), (29, ag .u64 zs4)] ?_
        have q_ := hD97_7 b81 b342
        rw [hR_] at q_
        exact q_
    have hD97_10 : ∀ (b91 : Nat), R_ 5 (bm 8 37) [(0, pt b), (2, pt b7), (3, pt b9), (5, pt b91), (27, ag .u64 zs1), (29, ag .u64 zs4)] [blk b91 89 (nums .u64 (List.replicate 5 (0 : Int))), blk b9 89 (nums .u64 zs4), blk b7 89 (nums .u64 zs1), blk b 108 (nums .u64 us ++ (nums .u64 xs2 ++ (nums .u64 zs2 ++ (nums .u64 xs3 ++ nums .u64 zs3))))] := by
      intro b91
      rw [hR_]
      refine RunU.any [1, 4] (by kernel_rfl) rfl (all_cons (i := 1) ?_ (all_cons (i := 4) ?_ all_nil))
      · skip
        refine ⟨(some 28), (.call { callee := .value (.func 91), args := #[.tmp 27], argTypes := #[89] }), (bm 8 39), [2, 1], (by kernel_rfl), (by kernel_rfl), ?_⟩
        refine (Step.cn 91 [ag .u64 zs1] [] [blk b91 89 (nums .u64 (List.replicate 5 (0 : Int))), blk b9 89 (nums .u64 zs4), blk b7 89 (nums .u64 zs1), blk b 108 (nums .u64 us ++ (nums .u64 xs2 ++ (nums .u64 zs2 ++ (nums .u64 xs3 ++ nums .u64 zs3))))] (f_Square_spec zs1 ((x2 + z2) % P) (by assumption) (by assumption)) [] ?_)
        rintro _ _ ⟨zs344, rfl, rfl, hp345, hp346⟩
        refine orL ?_
        refine RunU.turn [blk b91 89 (nums .u64 (List.replicate 5 (0 : Int))), blk b9 89 (nums .u64 zs4), blk b7 89 (nums .u64 zs1), blk b 108 (nums .u64 us ++ (nums .u64 xs2 ++ (nums .u64 zs2 ++ (nums .u64 xs3 ++ nums .u64 zs3))))] (fun _ _ w hs => hs.pulls2 [0, 0, 0, 0] _ (by kernel_rfl)) ?_
        refine RunU.ev [0, 2, 3, 5, 28, 29] [(0, pt b), (2, pt b7), (3, pt b9), (5, pt b91), (28, ag .u64 zs344), (29, ag .u64 zs4)] ?_
        have q_ := hD97_6 zs344 b91 (by assumption) (by assumption)
        rw [hR_] at q_
        exact q_
      · skip
        refine ⟨(some 4), (.alloc 89), (bm 8 53), [3, 2], (by kernel_rfl), (by kernel_rfl), ?_⟩
        refine (Step.al hU 5 40 z5 (fun b347 => ?_))
        have hl348 : (List.replicate 5 (0 : Int)).length = 5 := List.length_replicate
        refine orL ?_
        refine RunU.turn [blk b91 89 (nums .u64 (List.replicate 5 (0 : Int))), blk b347 89 (nums .u64 (List.replicate 5 (0 : Int))), blk b9 89 (nums .u64 zs4), blk b7 89 (nums .u64 zs1), blk b 108 (nums .u64 us ++ (nums .u64 xs2 ++ (nums .u64 zs2 ++ (nums .u64 xs3 ++ nums .u64 zs3))))] (fun _ _ w hs => hs.pulls2 [1, 0, 0, 0, 0] _ (by kernel_rfl)) ?_
        refine RunU.ev [0, 2, 3, 4, 5, 27, 29] [(0, pt b), (2, pt b7), (3, pt b9), (4, pt b347), (5, pt b91), (27, ag .u64 zs1), (29, ag .u64 zs4)] ?_
        have q_ := hD97_7 b347 b91
        rw [hR_] at q_
        exact q_
    have hD97_11 : R_ 6 (bm 8 5) [(0, pt b), (2, pt b7), (3, pt b9), (27, ag .u64 zs1), (29, ag .u64 zs4)] [blk b9 89 (nums .u64 zs4), blk b7 89 (nums .u64 zs1), blk b 108 (nums .u64 us ++ (nums .u64 xs2 ++ (nums .u64 zs2 ++ (nums .u64 xs3 ++ nums .u64 zs3))))] := by
      rw [hR_]
      refine RunU.any [1, 4, 5] (by kernel_rfl) rfl (all_cons (i := 1) ?_ (all_cons (i := 4) ?_ (all_cons (i := 5) ?_ all_nil)))
      · skip
        refine ⟨(some 28), (.call { callee := .value (.func 91), args := #[.tmp 27], argTypes := #[89] }), (bm 8 7), [1, 0], (by kernel_rfl), (by kernel_rfl), ?_⟩
        refine (Step.cn 91 [ag .u64 zs1] [] [blk b9 89 (nums .u64 zs4), blk b7 89 (nums .u64 zs1), blk b 108 (nums .u64 us ++ (nums .u64 xs2 ++ (nums .u64 zs2 ++ (nums .u64 xs3 ++ nums .u64 zs3))))] (f_Square_spec zs1 ((x2 + z2) % P) (by assumption) (by assumption)) [] ?_)
        rintro _ _ ⟨zs349, rfl, rfl, hp350, hp351⟩
        refine orL ?_
        refine RunU.turn [blk b9 89 (nums .u64 zs4), blk b7 89 (nums .u64 zs1), blk b 108 (nums .u64 us ++ (nums .u64 xs2 ++ (nums .u64 zs2 ++ (nums .u64 xs3 ++ nums .u64 zs3))))] (fun _ _ w hs => hs.pulls2 [0, 0, 0] _ (by kernel_rfl)) ?_
        refine RunU.ev [0, 2, 3, 28, 29] [(0, pt b), (2, pt b7), (3, pt b9), (28, ag .u64 zs349), (29, ag .u64 zs4)] ?_
        have q_ := hD97_8 zs349 (by assumption) (by assumption)
        rw [hR_] at q_
        exact q_
      · skip
        refine ⟨(some 4), (.alloc 89), (bm 8 21), [2, 1], (by kernel_rfl), (by kernel_rfl), ?_⟩
        refine (Step.al hU 5 40 z5 (fun b352 => ?_))
        have hl353 : (List.replicate 5 (0 : Int)).length = 5 := List.length_replicate
        refine orL ?_
        refine RunU.turn [blk b352 89 (nums .u64 (List.replicate 5 (0 : Int))), blk b9 89 (nums .u64 zs4), blk b7 89 (nums .u64 zs1), blk b 108 (nums .u64 us ++ (nums .u64 xs2 ++ (nums .u64 zs2 ++ (nums .u64 xs3 ++ nums .u64 zs3))))] (fun _ _ w hs => hs.pulls2 [0, 0, 0, 0] _ (by kernel_rfl)) ?_
        refine RunU.ev [0, 2, 3, 4, 27, 29] [(0, pt b), (2, pt b7), (3, pt b9), (4, pt b352), (27, ag .u64 zs1), (29, ag .u64 zs4)] ?_
        have q_ := hD97_9 b352
        rw [hR_] at q_
        exact q_
      · skip
        refine ⟨(some 5), (.alloc 89), (bm 8 37), [2, 1], (by kernel_rfl), (by kernel_rfl), ?_⟩
        refine (Step.al hU 5 40 z5 (fun b354 => ?_))
        have hl355 : (List.replicate 5 (0 : Int)).length = 5 := List.length_replicate
        refine orL ?_
        refine RunU.turn [blk b354 89 (nums .u64 (List.replicate 5 (0 : Int))), blk b9 89 (nums .u64 zs4), blk b7 89 (nums .u64 zs1), blk b 108 (nums .u64 us ++ (nums .u64 xs2 ++ (nums .u64 zs2 ++ (nums .u64 xs3 ++ nums .u64 zs3))))] (fun _ _ w hs => hs.pulls2 [0, 0, 0, 0] _ (by kernel_rfl)) ?_
        refine RunU.ev [0, 2, 3, 5, 27, 29] [(0, pt b), (2, pt b7), (3, pt b9), (5, pt b354), (27, ag .u64 zs1), (29, ag .u64 zs4)] ?_
        have q_ := hD97_10 b354
        rw [hR_] at q_
        exact q_
    exact hD97_11
  have hD48_1 : ∀ (zs1 : List Int) (zs4 : List Int) (b7 : Nat), El zs1 ((x2 + z2) % P) → zs1.length = 5 → El zs4 ((x2 - z2) % P) → zs4.length = 5 → R_ 3 (bm 22 524287) [(0, pt b), (2, pt b7), (17, ag .u64 zs1), (26, ag .u64 zs4)] [blk b7 89 (nums .u64 (List.replicate 5 (0 : Int))), blk b 108 (nums .u64 us ++ (nums .u64 xs2 ++ (nums .u64 zs2 ++ (nums .u64 xs3 ++ nums .u64 zs3))))] := by
    intro zs1 zs4 b7 hp2 hp3 hp5 hp6
    rw [hR_]
    refine RunU.any [19] (by kernel_rfl) rfl (all_cons (i := 19) ?_ all_nil)
    · skip
      refine ⟨(some 3), (.alloc 89), (bm 22 1048575), [2], (by kernel_rfl), (by kernel_rfl), ?_⟩
      refine (Step.al hU 5 40 z5 (fun b356 => ?_))
      have hl357 : (List.replicate 5 (0 : Int)).length = 5 := List.length_replicate
      refine orL ?_
      refine RunU.turn [blk b356 89 (nums .u64 (List.replicate 5 (0 : Int))), blk b7 89 (nums .u64 (List.replicate 5 (0 : Int))), blk b 108 (nums .u64 us ++ (nums .u64 xs2 ++ (nums .u64 zs2 ++ (nums .u64 xs3 ++ nums .u64 zs3))))] (fun _ _ w hs => hs.pulls2 [0, 0, 0] _ (by kernel_rfl)) ?_
      refine RunU.ev [0, 2, 3, 17, 26] [(0, pt b), (2, pt b7), (3, pt b356), (17, ag .u64 zs1), (26, ag .u64 zs4)] ?_
      have q_ := hD48_0 zs1 zs4 b7 b356 (by assumption) (by assumption) (by assumption) (by assumption)
      rw [hR_] at q_
      exact q_
  have hD48_2 : ∀ (zs1 : List Int) (zs4 : List Int) (b11 : Nat), El zs1 ((x2 + z2) % P) → zs1.length = 5 → El zs4 ((x2 - z2) % P) → zs4.length = 5 → R_ 3 (bm 22 786431) [(0, pt b), (3, pt b11), (17, ag .u64 zs1), (26, ag .u64 zs4)] [blk b11 89 (nums .u64 (List.replicate 5 (0 : Int))), blk b 108 (nums .u64 us ++ (nums .u64 xs2 ++ (nums .u64 zs2 ++ (nums .u64 xs3 ++ nums .u64 zs3))))] := by
    intro zs1 zs4 b11 hp2 hp3 hp5 hp6
    rw [hR_]
    refine RunU.any [18] (by kernel_rfl) rfl (all_cons (i := 18) ?_ all_nil)
    · skip
      refine ⟨(some 2), (.alloc 89), (bm 22 1048575), [2], (by kernel_rfl), (by kernel_rfl), ?_⟩
      refine (Step.al hU 5 40 z5 (fun b358 => ?_))
      have hl359 : (List.replicate 5 (0 : Int)).length = 5 := List.length_replicate
      refine orL ?_
      refine RunU.turn [blk b11 89 (nums .u64 (List.replicate 5 (0 : Int))), blk b358 89 (nums .u64 (List.replicate 5 (0 : Int))), blk b 108 (nums .u64 us ++ (nums .u64 xs2 ++ (nums .u64 zs2 ++ (nums .u64 xs3 ++ nums .u64 zs3))))] (fun _ _ w hs => hs.pulls2 [1, 0, 0] _ (by kernel_rfl)) ?_
      refine RunU.ev [0, 2, 3, 17, 26] [(0, pt b), (2, pt b358), (3, pt b11), (17, ag .u64 zs1), (26, ag .u64 zs4)] ?_
      have q_ := hD48_0 zs1 zs4 b358 b11 (by assumption) (by assumption) (by assumption) (by assumption)
      rw [hR_] at q_
      exact q_
  have hD48_3 : ∀ (zs1 : List Int) (b15 : Nat) (b20 : Nat), El zs1 ((x2 + z2) % P) → zs1.length = 5 → R_ 3 (bm 22 917503) [(0, pt b), (2, pt b15), (3, pt b20), (17, ag .u64 zs1), (21, ag .u64 xs2), (25, ag .u64 zs2)] [blk b20 89 (nums .u64 (List.replicate 5 (0 : Int))), blk b15 89 (nums .u64 (List.replicate 5 (0 : Int))), blk b 108 (nums .u64 us ++ (nums .u64 xs2 ++ (nums .u64 zs2 ++ (nums .u64 xs3 ++ nums .u64 zs3))))] := by
    intro zs1 b15 b20 hp2 hp3
    rw [hR_]
    refine RunU.any [17] (by kernel_rfl) rfl (all_cons (i := 17) ?_ all_nil)
    · skip
      refine ⟨(some 26), (.call { callee := .value (.func 90), args := #[.tmp 21, .tmp 25], argTypes := #[89, 89] }), (bm 22 1048575), [], (by kernel_rfl), (by kernel_rfl), ?_⟩
      refine (Step.cn 90 [ag .u64 xs2, ag .u64 zs2] [] [blk b20 89 (nums .u64 (List.replicate 5 (0 : Int))), blk b15 89 (nums .u64 (List.replicate 5 (0 : Int))), blk b 108 (nums .u64 us ++ (nums .u64 xs2 ++ (nums .u64 zs2 ++ (nums .u64 xs3 ++ nums .u64 zs3))))] (f_Sub_spec xs2 x2 zs2 z2 (by assumption) (by assumption) (by assumption) (by assumption)) [] ?_)
      rintro _ _ ⟨zs360, rfl, rfl, hp361, hp362⟩
      refine orR ?_
      refine RunU.turn [blk b20 89 (nums .u64 (List.replicate 5 (0 : Int))), blk b15 89 (nums .u64 (List.replicate 5 (0 : Int))), blk b 108 (nums .u64 us ++ (nums .u64 xs2 ++ (nums .u64 zs2 ++ (nums .u64 xs3 ++ nums .u64 zs3))))] (fun _ _ w hs => hs.pulls2 [0, 0, 0] _ (by kernel_rfl)) ?_
      refine RunU.ev [0, 2, 3, 17, 26] [(0, pt b), (2, pt b15), (3, pt b20), (17, ag .u64 zs1), (26, ag .u64 zs360)] ?_
      have q_ := hD48_0 zs1 zs360 b15 b20 (by assumption) (by assumption) (by assumption) (by assumption)
      rw [hR_] at q_
      exact q_
  have hD48_4 : ∀ (zs1 : List Int) (zs4 : List Int), El zs1 ((x2 + z2) % P) → zs1.length = 5 → El zs4 ((x2 - z2) % P) → zs4.length = 5 → R_ 4 (bm 22 262143) [(0, pt b), (17, ag .u64 zs1), (26, ag .u64 zs4)] [blk b 108 (nums .u64 us ++ (nums .u64 xs2 ++ (nums .u64 zs2 ++ (nums .u64 xs3 ++ nums .u64 zs3))))] := by
    intro zs1 zs4 hp2 hp3 hp5 hp6
    rw [hR_]
    refine RunU.any [18, 19] (by kernel_rfl) rfl (all_cons (i := 18) ?_ (all_cons (i := 19) ?_ all_nil))
    · skip
      refine ⟨(some 2), (.alloc 89), (bm 22 524287), [1], (by kernel_rfl), (by kernel_rfl), ?_⟩
      refine (Step.al hU 5 40 z5 (fun b363 => ?_))
      have hl364 : (List.replicate 5 (0 : Int)).length = 5 := List.length_replicate
      refine orL ?_
      refine RunU.turn [blk b363 89 (nums .u64 (List.replicate 5 (0 : Int))), blk b 108 (nums .u64 us ++ (nums .u64 xs2 ++ (nums .u64 zs2 ++ (nums .u64 xs3 ++ nums .u64 zs3))))] (fun _ _ w hs => hs.pulls2 [0, 0] _ (by kernel_rfl)) ?_
      refine RunU.ev [0, 2, 17, 26] [(0, pt b), (2, pt b363), (17, ag .u64 zs1), (26, ag .u64 zs4)] ?_
      have q_ := hD48_1 zs1 zs4 b363 (by assumption) (by assumption) (by assumption) (by assumption)
      rw [hR_] at q_
      exact q_
    · skip
      refine ⟨(some 3), (.alloc 89), (bm 22 786431), [1], (by kernel_rfl), (by kernel_rfl), ?_⟩
      refine (Step.al hU 5 40 z5 (fun b365 => ?_))
      have hl366 : (List.replicate 5 (0 : Int)).length = 5 := List.length_replicate
      refine orL ?_
      refine RunU.turn [blk b365 89 (nums .u64 (List.replicate 5 (0 : Int))), blk b 108 (nums .u64 us ++ (nums .u64 xs2 ++ (nums .u64 zs2 ++ (nums .u64 xs3 ++ nums .u64 zs3))))] (fun _ _ w hs => hs.pulls2 [0, 0] _ (by kernel_rfl)) ?_
      refine RunU.ev [0, 3, 17, 26] [(0, pt b), (3, pt b365), (17, ag .u64 zs1), (26, ag .u64 zs4)] ?_
      have q_ := hD48_2 zs1 zs4 b365 (by assumption) (by assumption) (by assumption) (by assumption)
      rw [hR_] at q_
      exact q_
  have hD48_5 : ∀ (zs1 : List Int) (b15 : Nat), El zs1 ((x2 + z2) % P) → zs1.length = 5 → R_ 4 (bm 22 393215) [(0, pt b), (2, pt b15), (17, ag .u64 zs1), (21, ag .u64 xs2), (25, ag .u64 zs2)] [blk b15 89 (nums .u64 (List.replicate 5 (0 : Int))), blk b 108 (nums .u64 us ++ (nums .u64 xs2 ++ (nums .u64 zs2 ++ (nums .u64 xs3 ++ nums .u64 zs3))))] := by
    intro zs1 b15 hp2 hp3
    rw [hR_]
    refine RunU.any [17, 19] (by kernel_rfl) rfl (all_cons (i := 17) ?_ (all_cons (i := 19) ?_ all_nil))
    · skip
      refine ⟨(some 26), (.call { callee := .value (.func 90), args := #[.tmp 21, .tmp 25], argTypes := #[89, 89] }), (bm 22 524287), [], (by kernel_rfl), (by kernel_rfl), ?_⟩
      refine (Step.cn 90 [ag .u64 xs2, ag .u64 zs2] [] [blk b15 89 (nums .u64 (List.replicate 5 (0 : Int))), blk b 108 (nums .u64 us ++ (nums .u64 xs2 ++ (nums .u64 zs2 ++ (nums .u64 xs3 ++ nums .u64 zs3))))] (f_Sub_spec xs2 x2 zs2 z2 (by assumption) (by assumption) (by assumption) (by assumption)) [] ?_)
      rintro _ _ ⟨zs367, rfl, rfl, hp368, hp369⟩
      refine orR ?_
      refine RunU.turn [blk b15 89 (nums .u64 (List.replicate 5 (0 : Int))), blk b 108 (nums .u64 us ++ (nums .u64 xs2 ++ (nums .u64 zs2 ++ (nums .u64 xs3 ++ nums .u64 zs3))))] (fun _ _ w hs => hs.pulls2 [0, 0] _ (by kernel_rfl)) ?_
      refine RunU.ev [0, 2, 17, 26] [(0, pt b), (2, pt b15), (17, ag .u64 zs1), (26, ag .u64 zs367)] ?_
      have q_ := hD48_1 zs1 zs367 b15 (by assumption) (by assumption) (by assumption) (by assumption)
      rw [hR_] at q_
      exact q_
    · skip
      refine ⟨(some 3), (.alloc 89), (bm 22 917503), [2], (by kernel_rfl), (by kernel_rfl), ?_⟩
      refine (Step.al hU 5 40 z5 (fun b370 => ?_))
      have hl371 : (List.replicate 5 (0 : Int)).length = 5 := List.length_replicate
      refine orL ?_
      refine RunU.turn [blk b370 89 (nums .u64 (List.replicate 5 (0 : Int))), blk b15 89 (nums .u64 (List.replicate 5 (0 : Int))), blk b 108 (nums .u64 us ++ (nums .u64 xs2 ++ (nums .u64 zs2 ++ (nums .u64 xs3 ++ nums .u64 zs3))))] (fun _ _ w hs => hs.pulls2 [0, 0, 0] _ (by kernel_rfl)) ?_
      refine RunU.ev [0, 2, 3, 17, 21, 25] [(0, pt b), (2, pt b15), (3, pt b370), (17, ag .u64 zs1), (21, ag .u64 xs2), (25, ag .u64 zs2)] ?_
      have q_ := hD48_3 zs1 b15 b370 (by assumption) (by assumption)
      rw [hR_] at q_
      exact q_
  have hD48_6 : ∀ (zs1 : List Int) (b25 : Nat), El zs1 ((x2 + z2) % P) → zs1.length = 5 → R_ 4 (bm 22 655359) [(0, pt b), (3, pt b25), (17, ag .u64 zs1), (21, ag .u64 xs2), (25, ag .u64 zs2)] [blk b25 89 (nums .u64 (List.replicate 5 (0 : Int))), blk b 108 (nums .u64 us ++ (nums .u64 xs2 ++ (nums .u64 zs2 ++ (nums .u64 xs3 ++ nums .u64 zs3))))] := by
    intro zs1 b25 hp2 hp3
    rw [hR_]
    refine RunU.any [17, 18] (by kernel_rfl) rfl (all_cons (i := 17) ?_ (all_cons (i := 18) ?_ all_nil))
    · skip
      refine ⟨(some 26), (.call { callee := .value (.func 90), args := #[.tmp 21, .tmp 25], argTypes := #[89, 89] }), (bm 22 786431), [], (by kernel_rfl), (by kernel_rfl), ?_⟩
      refine (Step.cn 90 [ag .u64 xs2, ag .u64 zs2] [] [blk b25 89 (nums .u64 (List.replicate 5 (0 : Int))), blk b 108 (nums .u64 us ++ (nums .u64 xs2 ++ (nums .u64 zs2 ++ (nums .u64 xs3 ++ nums .u64 zs3))))] (f_Sub_spec xs2 x2 zs2 z2 (by assumption) (by assumption) (by assumption) (by assumption)) [] ?_)
      rintro _ _ ⟨zs372, rfl, rfl, hp373, hp374⟩
      refine orR ?_
      refine RunU.turn [blk b25 89 (nums .u64 (List.replicate 5 (0 : Int))), blk b 108 (nums .u64 us ++ (nums .u64 xs2 ++ (nums .u64 zs2 ++ (nums .u64 xs3 ++ nums .u64 zs3))))] (fun _ _ w hs => hs.pulls2 [0, 0] _ (by kernel_rfl)) ?_
      refine RunU.ev [0, 3, 17, 26] [(0, pt b), (3, pt b25), (17, ag .u64 zs1), (26, ag .u64 zs372)] ?_
      have q_ := hD48_2 zs1 zs372 b25 (by assumption) (by assumption) (by assumption) (by assumption)
      rw [hR_] at q_
      exact q_
    · skip
      refine ⟨(some 2), (.alloc 89), (bm 22 917503), [2], (by kernel_rfl), (by kernel_rfl), ?_⟩
      refine (Step.al hU 5 40 z5 (fun b375 => ?_))
      have hl376 : (List.replicate 5 (0 : Int)).length = 5 := List.length_replicate
      refine orL ?_
      refine RunU.turn [blk b25 89 (nums .u64 (List.replicate 5 (0 : Int))), blk b375 89 (nums .u64 (List.replicate 5 (0 : Int))), blk b 108 (nums .u64 us ++ (nums .u64 xs2 ++ (nums .u64 zs2 ++ (nums .u64 xs3 ++ nums .u64 zs3))))] (fun _ _ w hs => hs.pulls2 [1, 0, 0] _ (by kernel_rfl)) ?_
      refine RunU.ev [0, 2, 3, 17, 21, 25] [(0, pt b), (2, pt b375), (3, pt b25), (17, ag .u64 zs1), (21, ag .u64 xs2), (25, ag .u64 zs2)] ?_
      have q_ := hD48_3 zs1 b375 b25 (by assumption) (by assumption)
      rw [hR_] at q_
      exact q_
  have hD48_7 : ∀ (b32 : Nat) (b37 : Nat), R_ 4 (bm 22 917247) [(0, pt b), (2, pt b32), (3, pt b37), (12, ag .u64 xs2), (16, ag .u64 zs2), (21, ag .u64 xs2), (25, ag .u64 zs2)] [blk b37 89 (nums .u64 (List.replicate 5 (0 : Int))), blk b32 89 (nums .u64 (List.replicate 5 (0 : Int))), blk b 108 (nums .u64 us ++ (nums .u64 xs2 ++ (nums .u64 zs2 ++ (nums .u64 xs3 ++ nums .u64 zs3))))] := by
    intro b32 b37
    rw [hR_]
    refine RunU.any [8] (by kernel_rfl) rfl (all_cons (i := 8) ?_ all_nil)
    · skip
      refine ⟨(some 17), (.call { callee := .value (.func 89), args := #[.tmp 12, .tmp 16], argTypes := #[89, 89] }), (bm 22 917503), [2], (by kernel_rfl), (by kernel_rfl), ?_⟩
      refine (Step.cn 89 [ag .u64 xs2, ag .u64 zs2] [] [blk b37 89 (nums .u64 (List.replicate 5 (0 : Int))), blk b32 89 (nums .u64 (List.replicate 5 (0 : Int))), blk b 108 (nums .u64 us ++ (nums .u64 xs2 ++ (nums .u64 zs2 ++ (nums .u64 xs3 ++ nums .u64 zs3))))] (f_Add_spec xs2 x2 zs2 z2 (by assumption) (by assumption) (by assumption) (by assumption)) [] ?_)
      rintro _ _ ⟨zs377, rfl, rfl, hp378, hp379⟩
      refine orL ?_
      refine RunU.turn [blk b37 89 (nums .u64 (List.replicate 5 (0 : Int))), blk b32 89 (nums .u64 (List.replicate 5 (0 : Int))), blk b 108 (nums .u64 us ++ (nums .u64 xs2 ++ (nums .u64 zs2 ++ (nums .u64 xs3 ++ nums .u64 zs3))))] (fun _ _ w hs => hs.pulls2 [0, 0, 0] _ (by kernel_rfl)) ?_
      refine RunU.ev [0, 2, 3, 17, 21, 25] [(0, pt b), (2, pt b32), (3, pt b37), (17, ag .u64 zs377), (21, ag .u64 xs2), (25, ag .u64 zs2)] ?_
      have q_ := hD48_3 zs377 b32 b37 (by assumption) (by assumption)
      rw [hR_] at q_
      exact q_
  have hD48_8 : ∀ (zs1 : List Int), El zs1 ((x2 + z2) % P) → zs1.length = 5 → R_ 5 (bm 22 131071) [(0, pt b), (17, ag .u64 zs1), (21, ag .u64 xs2), (25, ag .u64 zs2)] [blk b 108 (nums .u64 us ++ (nums .u64 xs2 ++ (nums .u64 zs2 ++ (nums .u64 xs3 ++ nums .u64 zs3))))] := by
    intro zs1 hp2 hp3
    rw [hR_]
    refine RunU.any [17, 18, 19] (by kernel_rfl) rfl (all_cons (i := 17) ?_ (all_cons (i := 18) ?_ (all_cons (i := 19) ?_ all_nil)))
    · skip
      refine ⟨(some 26), (.call { callee := .value (.func 90), args := #[.tmp 21, .tmp 25], argTypes := #[89, 89] }), (bm 22 262143), [], (by kernel_rfl), (by kernel_rfl), ?_⟩
      refine (Step.cn 90 [ag .u64 xs2, ag .u64 zs2] [] [blk b 108 (nums .u64 us ++ (nums .u64 xs2 ++ (nums .u64 zs2 ++ (nums .u64 xs3 ++ nums .u64 zs3))))] (f_Sub_spec xs2 x2 zs2 z2 (by assumption) (by assumption) (by assumption) (by assumption)) [] ?_)
      rintro _ _ ⟨zs380, rfl, rfl, hp381, hp382⟩
      refine orR ?_
      refine RunU.turn [blk b 108 (nums .u64 us ++ (nums .u64 xs2 ++ (nums .u64 zs2 ++ (nums .u64 xs3 ++ nums .u64 zs3))))] (fun _ _ w hs => hs.pulls2 [0] _ (by kernel_rfl)) ?_
      refine RunU.ev [0, 17, 26] [(0, pt b), (17, ag .u64 zs1), (26, ag .u64 zs380)] ?_
      have q_ := hD48_4 zs1 zs380 (by assumption) (by assumption) (by assumption) (by assumption)
      rw [hR_] at q_
      exact q_
    · skip
      refine ⟨(some 2), (.alloc 89), (bm 22 393215), [1], (by kernel_rfl), (by kernel_rfl), ?_⟩
      refine (Step.al hU 5 40 z5 (fun b383 => ?_))
      have hl384 : (List.replicate 5 (0 : Int)).length = 5 := List.length_replicate
      refine orL ?_
      refine RunU.turn [blk b383 89 (nums .u64 (List.replicate 5 (0 : Int))), blk b 108 (nums .u64 us ++ (nums .u64 xs2 ++ (nums .u64 zs2 ++ (nums .u64 xs3 ++ nums .u64 zs3))))] (fun _ _ w hs => hs.pulls2 [0, 0] _ (by kernel_rfl)) ?_
      refine RunU.ev [0, 2, 17, 21, 25] [(0, pt b), (2, pt b383), (17, ag .u64 zs1), (21, ag .u64 xs2), (25, ag .u64 zs2)] ?_
      have q_ := hD48_5 zs1 b383 (by assumption) (by assumption)
      rw [hR_] at q_
      exact q_
    · skip
      refine ⟨(some 3), (.alloc 89), (bm 22 655359), [1], (by kernel_rfl), (by kernel_rfl), ?_⟩
      refine (Step.al hU 5 40 z5 (fun b385 => ?_))
      have hl386 : (List.replicate 5 (0 : Int)).length = 5 := List.length_replicate
      refine orL ?_
      refine RunU.turn [blk b385 89 (nums .u64 (List.replicate 5 (0 : Int))), blk b 108 (nums .u64 us ++ (nums .u64 xs2 ++ (nums .u64 zs2 ++ (nums .u64 xs3 ++ nums .u64 zs3))))] (fun _ _ w hs => hs.pulls2 [0, 0] _ (by kernel_rfl)) ?_
      refine RunU.ev [0, 3, 17, 21, 25] [(0, pt b), (3, pt b385), (17, ag .u64 zs1), (21, ag .u64 xs2), (25, ag .u64 zs2)] ?_
      have q_ := hD48_6 zs1 b385 (by assumption) (by assumption)
      rw [hR_] at q_
      exact q_
  have hD48_9 : ∀ (b32 : Nat), R_ 5 (bm 22 392959) [(0, pt b), (2, pt b32), (12, ag .u64 xs2), (16, ag .u64 zs2), (21, ag .u64 xs2), (25, ag .u64 zs2)] [blk b32 89 (nums .u64 (List.replicate 5 (0 : Int))), blk b 108 (nums .u64 us ++ (nums .u64 xs2 ++ (nums .u64 zs2 ++ (nums .u64 xs3 ++ nums .u64 zs3))))] := by
    intro b32
    rw [hR_]
    refine RunU.any [8, 19] (by kernel_rfl) rfl (all_cons (i := 8) ?_ (all_cons (i := 19) ?_ all_nil))
    · skip
      refine ⟨(some 17), (.call { callee := .value (.func 89), args := #[.tmp 12, .tmp 16], argTypes := #[89, 89] }), (bm 22 393215), [1], (by kernel_rfl), (by kernel_rfl), ?_⟩
      refine (Step.cn 89 [ag .u64 xs2, ag .u64 zs2] [] [blk b32 89 (nums .u64 (List.replicate 5 (0 : Int))), blk b 108 (nums .u64 us ++ (nums .u64 xs2 ++ (nums .u64 zs2 ++ (nums .u64 xs3 ++ nums .u64 zs3))))] (f_Add_spec xs2 x2 zs2 z2 (by assumption) (by assumption) (by assumption) (by assumption)) [] ?_)
      rintro _ _ ⟨zs387, rfl, rfl, hp388, hp389⟩
      refine orL ?_
      refine RunU.turn [blk b32 89 (nums .u64 (List.replicate 5 (0 : Int))), blk b 108 (nums .u64 us ++ (nums .u64 xs2 ++ (nums .u64 zs2 ++ (nums .u64 xs3 ++ nums .u64 zs3))))] (fun _ _ w hs => hs.pulls2 [0, 0] _ (by kernel_rfl)) ?_
      refine RunU.ev [0, 2, 17, 21, 25] [(0, pt b), (2, pt b32), (17, ag .u64 zs387), (21, ag .u64 xs2), (25, ag .u64 zs2)] ?_
      have q_ := hD48_5 zs387 b32 (by assumption) (by assumption)
      rw [hR_] at q_
      exact q_
    · skip
      refine ⟨(some 3), (.alloc 89), (bm 22 917247), [2], (by kernel_rfl), (by kernel_rfl), ?_⟩
      refine (Step.al hU 5 40 z5 (fun b390 => ?_))
      have hl391 : (List.replicate 5 (0 : Int)).length = 5 := List.length_replicate
      refine orL ?_
      refine RunU.turn [blk b390 89 (nums .u64 (List.replicate 5 (0 : Int))), blk b32 89 (nums .u64 (List.replicate 5 (0 : Int))), blk b 108 (nums .u64 us ++ (nums .u64 xs2 ++ (nums .u64 zs2 ++ (nums .u64 xs3 ++ nums .u64 zs3))))] (fun _ _ w hs => hs.pulls2 [0, 0, 0] _ (by kernel_rfl)) ?_
      refine RunU.ev [0, 2, 3, 12, 16, 21, 25] [(0, pt b), (2, pt b32), (3, pt b390), (12, ag .u64 xs2), (16, ag .u64 zs2), (21, ag .u64 xs2), (25, ag .u64 zs2)] ?_
      have q_ := hD48_7 b32 b390
      rw [hR_] at q_
      exact q_
  have hD48_10 : ∀ (b42 : Nat), R_ 5 (bm 22 655103) [(0, pt b), (3, pt b42), (12, ag .u64 xs2), (16, ag .u64 zs2), (21, ag .u64 xs2), (25, ag .u64 zs2)] [blk b42 89 (nums .u64 (List.replicate 5 (0 : Int))), blk b 108 (nums .u64 us ++ (nums .u64 xs2 ++ (nums .u64 zs2 ++ (nums .u64 xs3 ++ nums .u64 zs3))))] := by
    intro b42
    rw [hR_]
    refine RunU.any [8, 18] (by kernel_rfl) rfl (all_cons (i := 8) ?_ (all_cons (i := 18) ?_ all_nil))
    · skip
      refine ⟨(some 17), (.call { callee := .value (.func 89), args := #[.tmp 12, .tmp 16], argTypes := #[89, 89] }), (bm 22 655359), [1], (by kernel_rfl), (by kernel_rfl), ?_⟩
      refine (Step.cn 89 [ag .u64 xs2, ag .u64 zs2] [] [blk b42 89 (nums .u64 (List.replicate 5 (0 : Int))), blk b 108 (nums .u64 us ++ (nums .u64 xs2 ++ (nums .u64 zs2 ++ (nums .u64 xs3 ++ nums .u64 zs3))))] (f_Add_spec xs2 x2 zs2 z2 (by assumption) (by assumption) (by assumption) (by assumption)) [] ?_)
      rintro _ _ ⟨zs392, rfl, rfl, hp393, hp394⟩
      refine orL ?_
      refine RunU.turn [blk b42 89 (nums .u64 (List.replicate 5 (0 : Int))), blk b 108 (nums .u64 us ++ (nums .u64 xs2 ++ (nums .u64 zs2 ++ (nums .u64 xs3 ++ nums .u64 zs3))))] (fun _ _ w hs => hs.pulls2 [0, 0] _ (by kernel_rfl)) ?_
      refine RunU.ev [0, 3, 17, 21, 25] [(0, pt b), (3, pt b42), (17, ag .u64 zs392), (21, ag .u64 xs2), (25, ag .u64 zs2)] ?_
      have q_ := hD48_6 zs392 b42 (by assumption) (by assumption)
      rw [hR_] at q_
      exact q_
    · skip
      refine ⟨(some 2), (.alloc 89), (bm 22 917247), [2], (by kernel_rfl), (by kernel_rfl), ?_⟩
      refine (Step.al hU 5 40 z5 (fun b395 => ?_))
      have hl396 : (List.replicate 5 (0 : Int)).length = 5 := List.length_replicate
      refine orL ?_
      refine RunU.turn [blk b42 89 (nums .u64 (List.replicate 5 (0 : Int))), blk b395 89 (nums .u64 (List.replicate 5 (0 : Int))), blk b 108 (nums .u64 us ++ (nums .u64 xs2 ++ (nums .u64 zs2 ++ (nums .u64 xs3 ++ nums .u64 zs3))))] (fun _ _ w hs => hs.pulls2 [1, 0, 0] _ (by kernel_rfl)) ?_
      refine RunU.ev [0, 2, 3, 12, 16, 21, 25] [(0, pt b), (2, pt b395), (3, pt b42), (12, ag .u64 xs2), (16, ag .u64 zs2), (21, ag .u64 xs2), (25, ag .u64 zs2)] ?_
      have q_ := hD48_7 b395 b42
      rw [hR_] at q_
      exact q_
  have hD48_11 : R_ 6 (bm 22 130815) [(0, pt b), (12, ag .u64 xs2), (16, ag .u64 zs2), (21, ag .u64 xs2), (25, ag .u64 zs2)] [blk b 108 (nums .u64 us ++ (nums .u64 xs2 ++ (nums .u64 zs2 ++ (nums .u64 xs3 ++ nums .u64 zs3))))] := by
    rw [hR_]
    refine RunU.any [8, 18, 19] (by kernel_rfl) rfl (all_cons (i := 8) ?_ (all_cons (i := 18) ?_ (all_cons (i := 19) ?_ all_nil)))
    · skip
      refine ⟨(some 17), (.call { callee := .value (.func 89), args := #[.tmp 12, .tmp 16], argTypes := #[89, 89] }), (bm 22 131071), [0], (by kernel_rfl), (by kernel_rfl), ?_⟩
      refine (Step.cn 89 [ag .u64 xs2, ag .u64 zs2] [] [blk b 108 (nums .u64 us ++ (nums .u64 xs2 ++ (nums .u64 zs2 ++ (nums .u64 xs3 ++ nums .u64 zs3))))] (f_Add_spec xs2 x2 zs2 z2 (by assumption) (by assumption) (by assumption) (by assumption)) [] ?_)
      rintro _ _ ⟨zs397, rfl, rfl, hp398, hp399⟩
      refine orL ?_
      refine RunU.turn [blk b 108 (nums .u64 us ++ (nums .u64 xs2 ++ (nums .u64 zs2 ++ (nums .u64 xs3 ++ nums .u64 zs3))))] (fun _ _ w hs => hs.pulls2 [0] _ (by kernel_rfl)) ?_
      refine RunU.ev [0, 17, 21, 25] [(0, pt b), (17, ag .u64 zs397), (21, ag .u64 xs2), (25, ag .u64 zs2)] ?_
      have q_ := hD48_8 zs397 (by assumption) (by assumption)
      rw [hR_] at q_
      exact q_
    · skip
      refine ⟨(some 2), (.alloc 89), (bm 22 392959), [1], (by kernel_rfl), (by kernel_rfl), ?_⟩
      refine (Step.al hU 5 40 z5 (fun b400 => ?_))
      have hl401 : (List.replicate 5 (0 : Int)).length = 5 := List.length_replicate
      refine orL ?_
      refine RunU.turn [blk b400 89 (nums .u64 (List.replicate 5 (0 : Int))), blk b 108 (nums .u64 us ++ (nums .u64 xs2 ++ (nums .u64 zs2 ++ (nums .u64 xs3 ++ nums .u64 zs3))))] (fun _ _ w hs => hs.pulls2 [0, 0] _ (by kernel_rfl)) ?_
      refine RunU.ev [0, 2, 12, 16, 21, 25] [(0, pt b), (2, pt b400), (12, ag .u64 xs2), (16, ag .u64 zs2), (21, ag .u64 xs2), (25, ag .u64 zs2)] ?_
      have q_ := hD48_9 b400
      rw [hR_] at q_
      exact q_
    · skip
      refine ⟨(some 3), (.alloc 89), (bm 22 655103), [1], (by kernel_rfl), (by kernel_rfl), ?_⟩
      refine (Step.al hU 5 40 z5 (fun b402 => ?_))
      have hl403 : (List.replicate 5 (0 : Int)).length = 5 := List.length_replicate
      refine orL ?_
      refine RunU.turn [blk b402 89 (nums .u64 (List.replicate 5 (0 : Int))), blk b 108 (nums .u64 us ++ (nums .u64 xs2 ++ (nums .u64 zs2 ++ (nums .u64 xs3 ++ nums .u64 zs3))))] (fun _ _ w hs => hs.pulls2 [0, 0] _ (by kernel_rfl)) ?_
      refine RunU.ev [0, 3, 12, 16, 21, 25] [(0, pt b), (3, pt b402), (12, ag .u64 xs2), (16, ag .u64 zs2), (21, ag .u64 xs2), (25, ag .u64 zs2)] ?_
      have q_ := hD48_10 b402
      rw [hR_] at q_
      exact q_
  exact hD48_11
end Go.Proofs.Ytaaplakahkgclaa.Z4
