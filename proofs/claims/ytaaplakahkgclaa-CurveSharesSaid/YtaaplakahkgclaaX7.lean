/- What these functions compute: a contract for each, walked through its code. -/
import Derived.Test.YtaaplakahkgclaaSLzh
import Derived.Test.YtaaplakahkgclaaKPure
import Derived.Test.YtaaplakahkgclaaProg
import Derived.Test.YtaaplakahkgclaaX1
import Derived.Test.YtaaplakahkgclaaX2
import Derived.Test.YtaaplakahkgclaaX3
import Derived.Test.YtaaplakahkgclaaX4
import Derived.Test.YtaaplakahkgclaaX5
import Derived.Test.YtaaplakahkgclaaX6
namespace Go.Proofs.Ytaaplakahkgclaa.X7
open Go Go.Proofs.Ytaaplakahkgclaa.SL Go.Proofs.Ytaaplakahkgclaa.SL.W Go.Proofs.Ytaaplakahkgclaa.SL.F Go.Proofs.Ytaaplakahkgclaa.SL.N Go.Proofs.Ytaaplakahkgclaa.SL.E Go.Proofs.Ytaaplakahkgclaa.SL.K Go.Proofs.Ytaaplakahkgclaa.X1 Go.Proofs.Ytaaplakahkgclaa.X2 Go.Proofs.Ytaaplakahkgclaa.X3 Go.Proofs.Ytaaplakahkgclaa.X4 Go.Proofs.Ytaaplakahkgclaa.X5 Go.Proofs.Ytaaplakahkgclaa.X6
set_option linter.unusedVariables false
set_option linter.unusedSimpArgs false
set_option maxRecDepth 100000
set_option maxHeartbeats 40000000
def U : Tab where
  und := [(3, .int .i64), (86, .int .u64), (87, .array 5 86), (88, .struct #[{ name := "n", type := 87, offset := 0, embedded := false, tag := "", pkgPath := "orlop/field", byteOffset := 0 }]), (89, .struct #[{ name := "n", type := 87, offset := 0, embedded := false, tag := "", pkgPath := "orlop/field", byteOffset := 0 }])]
  fld := [((88, 0), (0, 87)), ((89, 0), (0, 87))]
  sz := [(3, 1), (86, 1), (87, 5), (88, 5), (89, 5)]
  ti := [(3, (1, 8, .int .i64 0)), (86, (1, 8, .int .u64 0)), (87, (5, 40, z5)), (88, (5, 40, z5)), (89, (5, 40, z5))]
  bld := [(88, [(0, 5)]), (89, [(0, 5)])]

theorem hU : U.OK Try.prog where
  und := by
    intro p hp
    simp only [U, List.mem_cons, List.not_mem_nil, or_false] at hp
    rcases hp with rfl | rfl | rfl | rfl | rfl
    · exact Try.underlying3
    · exact Try.underlying86
    · exact Try.underlying87
    · exact Try.underlying88
    · exact Try.underlying89
  fld := by
    intro p hp
    simp only [U, List.mem_cons, List.not_mem_nil, or_false] at hp
    rcases hp with rfl | rfl
    · exact ⟨_, _, Try.underlying88, rfl, rfl, rfl, Try.prog.types[87]!, by kernel_rfl, by decide +kernel⟩
    · exact ⟨_, _, Try.underlying89, rfl, rfl, rfl, Try.prog.types[87]!, by kernel_rfl, by decide +kernel⟩
  sz := by
    intro p hp
    simp only [U, List.mem_cons, List.not_mem_nil, or_false] at hp
    rcases hp with rfl | rfl | rfl | rfl | rfl
    · exact ⟨Try.prog.types[3]!, by kernel_rfl, by kernel_rfl⟩
    · exact ⟨Try.prog.types[86]!, by kernel_rfl, by kernel_rfl⟩
    · exact ⟨Try.prog.types[87]!, by kernel_rfl, by kernel_rfl⟩
    · exact ⟨Try.prog.types[88]!, by kernel_rfl, by kernel_rfl⟩
    · exact ⟨Try.prog.types[89]!, by kernel_rfl, by kernel_rfl⟩
  ti := by
    intro p hp
    simp only [U, List.mem_cons, List.not_mem_nil, or_false] at hp
    rcases hp with rfl | rfl | rfl | rfl | rfl
    · exact ⟨Try.prog.types[3]!, by kernel_rfl, by kernel_rfl, by kernel_rfl, by kernel_rfl⟩
    · exact ⟨Try.prog.types[86]!, by kernel_rfl, by kernel_rfl, by kernel_rfl, by kernel_rfl⟩
    · exact ⟨Try.prog.types[87]!, by kernel_rfl, by kernel_rfl, by kernel_rfl, by kernel_rfl⟩
    · exact ⟨Try.prog.types[88]!, by kernel_rfl, by kernel_rfl, by kernel_rfl, by kernel_rfl⟩
    · exact ⟨Try.prog.types[89]!, by kernel_rfl, by kernel_rfl, by kernel_rfl, by kernel_rfl⟩
  bld := by
    intro p hp
    simp only [U, List.mem_cons, List.not_mem_nil, or_false] at hp
    rcases hp with rfl | rfl
    · exact ⟨_, Try.underlying88, by kernel_rfl⟩
    · exact ⟨_, Try.underlying89, by kernel_rfl⟩
  mixed := by kernel_rfl

theorem f_reduced_spec (xs : List Int) (v : Int) (hE : El xs v) (hl : xs.length = 5) :
    CallsS Try.prog 98 [ag .u64 xs] [] (fun r D => ∃ (zs : List Int), r = ag .u64 zs ∧ D = [] ∧ (Red zs v) ∧ (zs.length = 5)) := by
  refine CallsS.enter hU Try.f98 _ [.cell 2 89] 60 Try.func98 rfl (by decide) rfl rfl (by kernel_rfl) fun w0 W => ?_
  refine RunC.sr ?_
  refine RunR.st (some 1) (.box 89 (.tmp 0)) (Step.box (ag .u64 xs) (by kernel_rfl) (by kernel_rfl) (fun b1 => ?_))
  refine RunR.st (some 2) (.alloc 89) (Step.al hU 5 40 z5 (fun b2 => ?_))
  have hl3 : (List.replicate 5 (0 : Int)).length = 5 := List.length_replicate
  refine RunR.nx ?_
  refine RunR.st (some 7) (.load 89 (.tmp 1)) (Step.load_blk hU 1 b1 (0) 89 (nums .u64 xs) (ag .u64 xs) (by kernel_rfl) (by kernel_rfl) (loadv_seg (n := 5) (by kernel_rfl) (by kernel_rfl) (Seg.all _) (by simp only [List.length_append, nums_length, List.length_cons, List.length_nil] <;> omega)) (by kernel_rfl) ?_)
  refine RunR.st (some 8) (.call { callee := .value (.func 96), args := #[.tmp 7], argTypes := #[89] }) (Step.cn 96 [ag .u64 xs] [] [blk b2 89 (nums .u64 (List.replicate 5 (0 : Int))), blk b1 89 (nums .u64 xs)] (f_carried_spec xs (by exact hE.lim.mono (by decide)) (by assumption)) [] ?_)
  rintro _ _ ⟨zs4, rfl, rfl, hp5, hp6⟩
  refine RunR.st (some 9) (.call { callee := .value (.func 96), args := #[.tmp 8], argTypes := #[89] }) (Step.cn 96 [ag .u64 zs4] [] [blk b2 89 (nums .u64 (List.replicate 5 (0 : Int))), blk b1 89 (nums .u64 xs)] (f_carried_spec zs4 (by (simp only [hp5]; exact (carr_lim hE.lim (by decide)).mono (by decide))) (by assumption)) [] ?_)
  rintro _ _ ⟨zs7, rfl, rfl, hp8, hp9⟩
  refine RunR.st (some 10) (.call { callee := .value (.func 96), args := #[.tmp 9], argTypes := #[89] }) (Step.cn 96 [ag .u64 zs7] [] [blk b2 89 (nums .u64 (List.replicate 5 (0 : Int))), blk b1 89 (nums .u64 xs)] (f_carried_spec zs7 (by (simp only [hp5, hp8]; exact (carr_lim (carr_lim hE.lim (by decide)) (by decide)).mono (by decide))) (by assumption)) [] ?_)
  rintro _ _ ⟨zs10, rfl, rfl, hp11, hp12⟩
  refine RunR.st none (.store 89 (.tmp 1) (.tmp 10)) (Step.ss hU 1 b1 (0) 89 (nums .u64 xs) (nums .u64 zs10) (nums .u64 zs10) (ag .u64 zs10) 5 (by (simp only [List.length_append, nums_length, List.length_cons, List.length_nil, List.length_replicate]; omega)) (show Put _ 0 _ _ from Put.all (by simp only [List.length_append, nums_length, List.length_cons, List.length_nil, List.length_replicate] <;> omega)) ?_)
  refine RunR.nx ?_
  refine RunR.sil hU [] 2 2 [1, 2, 12] [(1, pt b1), (2, pt b2), (12, pt b1)] ((True) ∧ (0 ≤ (0 : Int) ∧ (0 : Int) < ((5 : Nat) : Int)) ∧ True) rfl (by kernel_rfl) ⟨trivial, (by omega), trivial⟩ ?_
  refine RunR.st (some 13) (.load 86 (.tmp 12)) (Step.load_blk hU 0 b1 (0) 89 (nums .u64 zs10) (.int .u64 (zs10.getD 0 0)) (by kernel_rfl) (by kernel_rfl) (loadv_one (by kernel_rfl) (Seg.elem (i := 0) (show Seg _ 0 _ from Seg.all _) (by omega) (by omega))) (by kernel_rfl) ?_)
  refine RunR.sil hU [4] 3 6 [1, 2, 3] [(1, pt b1), (2, pt b2), (3, .int .u64 ((IntKind.wrap .u64 ((zs10.getD 0 0) + 19)) / 2 ^ 51))] ((True) ∧ (0 ≤ (51 : Int)) ∧ (True) ∧ True) rfl (by kernel_rfl) ⟨trivial, (by omega), trivial, trivial⟩ ?_
  refine RunR.nn ?_
  refine RunC.seq ?_
  refine RunC.sr ?_
  refine RunR.sl hU [] 1 1 [1, 2, 3, 4] [(1, pt b1), (2, pt b2), (3, .int .u64 ((IntKind.wrap .u64 ((zs10.getD 0 0) + 19)) / 2 ^ 51)), (4, .int .i64 1)] 1 ?_
  refine RunR.nn ?_
  refine RunC.block ?_
  have hR : Lim 2251799813685248 zs10 ∧ val zs10 % P = v := by simp only [hp5, hp8, hp11]; exact red_three hE
  refine RunC.env [1, 2, 3, 4] [(1, pt b1), (2, pt b2), (3, .int .u64 ((IntKind.wrap .u64 ((zs10.getD 0 0) + 19)) / 2 ^ 51)), (4, .int .i64 1)] (by kernel_rfl) ?_
  refine RunC.only [0, 0] [blk b1 89 (nums .u64 zs10), blk b2 89 (nums .u64 (List.replicate 5 (0 : Int)))] (by kernel_rfl) ?_
  refine RunC.loop (σ := Nat) (fun n_ t_ D_ => ∃ (i : Int) (q : Int), (1 ≤ i) ∧ (i ≤ 5) ∧ (q = carC (up19 zs10) i.toNat) ∧ n_ = ((5 - i).toNat : Nat) ∧ t_ = [(1, pt b1), (2, pt b2), (3, .int .u64 q), (4, .int .i64 i)] ∧ D_ = [blk b1 89 (nums .u64 zs10), blk b2 89 (nums .u64 (List.replicate 5 (0 : Int)))]) id _ ⟨1, ((IntKind.wrap .u64 ((zs10.getD 0 0) + 19)) / 2 ^ 51), (by omega), (by omega), (by exact q_start hR.1), rfl, rfl, rfl⟩ ?_
  rintro n_ _ _ ⟨i, q, hi, hi5, hq, rfl, rfl, rfl⟩
  refine RunC.seq ?_
  refine RunC.sr ?_
  refine RunR.sl hU [] 2 2 [1, 2, 3, 4, 17] [(1, pt b1), (2, pt b2), (3, .int .u64 q), (4, .int .i64 i), (17, .bool (decide (i < 5)))] 2 ?_
  refine RunR.nn ?_
  refine RunC.condp (i < 5) (by kernel_rfl) (fun h13 => ?_) (fun h13 => ?_)
  · skip
    refine RunC.ks ?_
    refine RunC.seq ?_
    refine RunC.block ?_
    refine RunC.region ?_
    refine RunR.sil hU [] 3 3 [1, 2, 3, 4, 22] [(1, pt b1), (2, pt b2), (3, .int .u64 q), (4, .int .i64 i), (22, .pointer (some ⟨b1, 0 + (i).toNat * 1, none⟩))] ((True) ∧ (True) ∧ (0 ≤ i ∧ i < ((5 : Nat) : Int)) ∧ True) rfl (by kernel_rfl) ⟨trivial, trivial, (by omega), trivial⟩ ?_
    refine RunR.st (some 23) (.load 86 (.tmp 22)) (Step.load_blk hU 0 b1 (0 + (i).toNat * 1) 89 (nums .u64 zs10) (.int .u64 (zs10.getD ((i).toNat) 0)) (by kernel_rfl) (by kernel_rfl) (loadv_one (by kernel_rfl) (Seg.elem (i := (i).toNat) (show Seg _ 0 _ from Seg.all _) (by omega) (by omega))) (by kernel_rfl) ?_)
    refine RunR.sil hU [6] 4 8 [1, 2, 3, 4] [(1, pt b1), (2, pt b2), (3, .int .u64 ((IntKind.wrap .u64 ((zs10.getD ((i).toNat) 0) + q)) / 2 ^ 51)), (4, .int .i64 i)] ((True) ∧ (True) ∧ (0 ≤ (51 : Int)) ∧ (True) ∧ True) rfl (by kernel_rfl) ⟨trivial, trivial, (by omega), trivial, trivial⟩ ?_
    refine RunR.dn ?_
    refine kblock_n ?_
    refine kseq_n ?_
    refine RunC.region ?_
    refine RunR.sil hU [1] 3 3 [1, 2, 3, 4] [(1, pt b1), (2, pt b2), (3, .int .u64 ((IntKind.wrap .u64 ((zs10.getD ((i).toNat) 0) + q)) / 2 ^ 51)), (4, .int .i64 (i + 1))] ((True) ∧ (-9223372036854775808 ≤ (i + 1) ∧ (i + 1) < 9223372036854775808) ∧ (True) ∧ True) rfl (by kernel_rfl) ⟨trivial, (by omega), trivial, trivial⟩ ?_
    refine RunR.dn ?_
    refine kloop_n _ [1, 2, 3, 4] [0, 0] [(1, pt b1), (2, pt b2), (3, .int .u64 ((IntKind.wrap .u64 ((zs10.getD ((i).toNat) 0) + q)) / 2 ^ 51)), (4, .int .i64 (i + 1))] [blk b1 89 (nums .u64 zs10), blk b2 89 (nums .u64 (List.replicate 5 (0 : Int)))] (by kernel_rfl) (by kernel_rfl) ?_ ⟨(i + 1), ((IntKind.wrap .u64 ((zs10.getD ((i).toNat) 0) + q)) / 2 ^ 51), (by omega), (by assumption), (by rw [show (i + 1).toNat = i.toNat + 1 by omega]; exact q_step hR.1 (by omega) (by omega) hq), rfl, (by rfl), (by rfl)⟩
    show ((5 - (i + 1)).toNat : Nat) < ((5 - i).toNat : Nat)
    omega
  · skip
    refine RunC.exit ?_
    refine kseq_e ?_
    refine kloop_e ?_
    refine kblock_e ?_
    refine kseq_n ?_
    refine RunC.sr ?_
    refine RunR.sil hU [] 2 2 [1, 2, 3, 28] [(1, pt b1), (2, pt b2), (3, .int .u64 q), (28, pt b1)] ((True) ∧ (0 ≤ (0 : Int) ∧ (0 : Int) < ((5 : Nat) : Int)) ∧ True) rfl (by kernel_rfl) ⟨trivial, (by omega), trivial⟩ ?_
    refine RunR.st (some 29) (.load 86 (.tmp 28)) (Step.load_blk hU 0 b1 (0) 89 (nums .u64 zs10) (.int .u64 (zs10.getD 0 0)) (by kernel_rfl) (by kernel_rfl) (loadv_one (by kernel_rfl) (Seg.elem (i := 0) (show Seg _ 0 _ from Seg.all _) (by omega) (by omega))) (by kernel_rfl) ?_)
    refine RunR.sil hU [] 5 8 [1, 2, 32, 34] [(1, pt b1), (2, pt b2), (32, .int .u64 (IntKind.wrap .u64 ((zs10.getD 0 0) + (IntKind.wrap .u64 (19 * q))))), (34, pt b1)] ((True) ∧ (True) ∧ (True) ∧ (True) ∧ (0 ≤ (0 : Int) ∧ (0 : Int) < ((5 : Nat) : Int)) ∧ True) rfl (by kernel_rfl) ⟨trivial, trivial, trivial, trivial, (by omega), trivial⟩ ?_
    have hl14 : (zs10.set 0 (IntKind.wrap .u64 ((zs10.getD 0 0) + (IntKind.wrap .u64 (19 * q))))).length = zs10.length := List.length_set
    refine RunR.st none (.store 86 (.tmp 34) (.tmp 32)) (Step.store_seg hU 0 b1 (0) 89 (nums .u64 zs10) (nums .u64 (zs10.set 0 (IntKind.wrap .u64 ((zs10.getD 0 0) + (IntKind.wrap .u64 (19 * q)))))) ([.int .u64 (IntKind.wrap .u64 ((zs10.getD 0 0) + (IntKind.wrap .u64 (19 * q))))]) (.int .u64 (IntKind.wrap .u64 ((zs10.getD 0 0) + (IntKind.wrap .u64 (19 * q))))) (by kernel_rfl) (by kernel_rfl) (by kernel_rfl) 1 (by kernel_rfl) (by kernel_rfl) (by rfl) (by kernel_rfl) (show Put _ 0 _ _ from Put.nth (i := 0) (by omega) rfl) ?_)
    refine RunR.nx ?_
    refine RunR.sl hU [] 1 1 [1, 2, 5] [(1, pt b1), (2, pt b2), (5, .int .u64 0)] 1 ?_
    refine RunR.nn ?_
    refine RunC.seq ?_
    refine RunC.sr ?_
    refine RunR.sl hU [] 1 1 [1, 2, 5, 35] [(1, pt b1), (2, pt b2), (5, .int .u64 0), (35, .int .i64 0)] 1 ?_
    refine RunR.nn ?_
    refine RunC.block ?_
    have hq5 := hq
    rw [show i.toNat = 5 by omega] at hq5
    have hL2 : Lim 9223372036854775808 (zs10.set 0 (IntKind.wrap .u64 ((zs10.getD 0 0) + (IntKind.wrap .u64 (19 * q))))) := lim_of_three hR.1 hq5
    refine RunC.env [1, 2, 5, 35] [(1, pt b1), (2, pt b2), (5, .int .u64 0), (35, .int .i64 0)] (by kernel_rfl) ?_
    refine RunC.only [0, 0] [blk b1 89 (nums .u64 (zs10.set 0 (IntKind.wrap .u64 ((zs10.getD 0 0) + (IntKind.wrap .u64 (19 * q)))))), blk b2 89 (nums .u64 (List.replicate 5 (0 : Int)))] (by kernel_rfl) ?_
    refine RunC.loop (σ := Nat) (fun n_ t_ D_ => ∃ (j : Int) (os : List Int) (c : Int), (0 ≤ j) ∧ (j ≤ 5) ∧ (os = carL (zs10.set 0 (IntKind.wrap .u64 ((zs10.getD 0 0) + (IntKind.wrap .u64 (19 * q))))) j.toNat) ∧ (c = carC (zs10.set 0 (IntKind.wrap .u64 ((zs10.getD 0 0) + (IntKind.wrap .u64 (19 * q))))) j.toNat) ∧ (os.length = 5) ∧ n_ = ((5 - j).toNat : Nat) ∧ t_ = [(1, pt b1), (2, pt b2), (5, .int .u64 c), (35, .int .i64 j)] ∧ D_ = [blk b1 89 (nums .u64 os), blk b2 89 (nums .u64 (List.replicate 5 (0 : Int)))]) id _ ⟨0, (zs10.set 0 (IntKind.wrap .u64 ((zs10.getD 0 0) + (IntKind.wrap .u64 (19 * q))))), 0, (by omega), (by omega), (by rfl), (by rfl), (by omega), rfl, rfl, rfl⟩ ?_
    rintro n_ _ _ ⟨j, os, c, hj, hj2, ho, hc, hol, rfl, rfl, rfl⟩
    refine RunC.sr ?_
    refine RunR.sl hU [] 1 1 [1, 2, 5, 35, 36] [(1, pt b1), (2, pt b2), (5, .int .u64 c), (35, .int .i64 j), (36, .bool (decide (j < 5)))] 1 ?_
    refine RunR.nn ?_
    refine RunC.seq ?_
    refine RunC.condp (j < 5) (by kernel_rfl) (fun h15 => ?_) (fun h15 => ?_)
    · skip
      refine RunC.ks ?_
      refine RunC.seq ?_
      refine RunC.block ?_
      refine RunC.sr ?_
      refine RunR.sl hU [] 2 2 [1, 2, 5, 6, 35] [(1, pt b1), (2, pt b2), (5, .int .u64 c), (6, .int .i64 j), (35, .int .i64 j)] 2 ?_
      refine RunR.nx ?_
      refine RunR.sil hU [] 3 3 [1, 2, 5, 6, 35, 38, 40] [(1, pt b1), (2, pt b2), (5, .int .u64 c), (6, .int .i64 j), (35, .int .i64 j), (38, .int .i64 j), (40, .pointer (some ⟨b1, 0 + (j).toNat * 1, none⟩))] ((True) ∧ (True) ∧ (0 ≤ j ∧ j < ((5 : Nat) : Int)) ∧ True) rfl (by kernel_rfl) ⟨trivial, trivial, (by omega), trivial⟩ ?_
      refine RunR.st (some 41) (.load 86 (.tmp 40)) (Step.load_blk hU 0 b1 (0 + (j).toNat * 1) 89 (nums .u64 os) (.int .u64 (os.getD ((j).toNat) 0)) (by kernel_rfl) (by kernel_rfl) (loadv_one (by kernel_rfl) (Seg.elem (i := (j).toNat) (show Seg _ 0 _ from Seg.all _) (by omega) (by omega))) (by kernel_rfl) ?_)
      refine RunR.sil hU [] 4 8 [1, 2, 5, 6, 35, 43, 45] [(1, pt b1), (2, pt b2), (5, .int .u64 c), (6, .int .i64 j), (35, .int .i64 j), (43, .int .u64 (IntKind.wrap .u64 ((os.getD ((j).toNat) 0) + c))), (45, .pointer (some ⟨b1, 0 + (j).toNat * 1, none⟩))] ((True) ∧ (True) ∧ (True) ∧ (0 ≤ j ∧ j < ((5 : Nat) : Int)) ∧ True) rfl (by kernel_rfl) ⟨trivial, trivial, trivial, (by omega), trivial⟩ ?_
      have hl16 : (os.set ((j).toNat) (IntKind.wrap .u64 ((os.getD ((j).toNat) 0) + c))).length = os.length := List.length_set
      refine RunR.st none (.store 86 (.tmp 45) (.tmp 43)) (Step.store_seg hU 0 b1 (0 + (j).toNat * 1) 89 (nums .u64 os) (nums .u64 (os.set ((j).toNat) (IntKind.wrap .u64 ((os.getD ((j).toNat) 0) + c)))) ([.int .u64 (IntKind.wrap .u64 ((os.getD ((j).toNat) 0) + c))]) (.int .u64 (IntKind.wrap .u64 ((os.getD ((j).toNat) 0) + c))) (by kernel_rfl) (by kernel_rfl) (by kernel_rfl) 1 (by kernel_rfl) (by kernel_rfl) (by rfl) (by kernel_rfl) ((Put.nth (i := (j).toNat) (by omega) rfl).at (by omega)) ?_)
      refine RunR.nx ?_
      refine RunR.sil hU [] 3 3 [1, 2, 5, 6, 35, 48] [(1, pt b1), (2, pt b2), (5, .int .u64 c), (6, .int .i64 j), (35, .int .i64 j), (48, .pointer (some ⟨b1, 0 + (j).toNat * 1, none⟩))] ((True) ∧ (True) ∧ (0 ≤ j ∧ j < ((5 : Nat) : Int)) ∧ True) rfl (by kernel_rfl) ⟨trivial, trivial, (by omega), trivial⟩ ?_
      refine RunR.st (some 49) (.load 86 (.tmp 48)) (Step.load_blk hU 0 b1 (0 + (j).toNat * 1) 89 (nums .u64 (os.set ((j).toNat) (IntKind.wrap .u64 ((os.getD ((j).toNat) 0) + c)))) (.int .u64 ((os.set ((j).toNat) (IntKind.wrap .u64 ((os.getD ((j).toNat) 0) + c))).getD ((j).toNat) 0)) (by kernel_rfl) (by kernel_rfl) (loadv_one (by kernel_rfl) (Seg.elem (i := (j).toNat) (show Seg _ 0 _ from Seg.all _) (by omega) (by omega))) (by kernel_rfl) ?_)
      refine RunR.sil hU [4] 2 6 [1, 2, 5, 6, 35] [(1, pt b1), (2, pt b2), (5, .int .u64 (((os.set ((j).toNat) (IntKind.wrap .u64 ((os.getD ((j).toNat) 0) + c))).getD ((j).toNat) 0) / 2 ^ 51)), (6, .int .i64 j), (35, .int .i64 j)] ((0 ≤ (51 : Int)) ∧ (True) ∧ True) rfl (by kernel_rfl) ⟨(by omega), trivial, trivial⟩ ?_
      refine RunR.nn ?_
      refine RunC.region ?_
      refine RunR.sil hU [] 3 3 [1, 2, 5, 35, 51, 53] [(1, pt b1), (2, pt b2), (5, .int .u64 (((os.set ((j).toNat) (IntKind.wrap .u64 ((os.getD ((j).toNat) 0) + c))).getD ((j).toNat) 0) / 2 ^ 51)), (35, .int .i64 j), (51, .int .i64 j), (53, .pointer (some ⟨b1, 0 + (j).toNat * 1, none⟩))] ((True) ∧ (True) ∧ (0 ≤ j ∧ j < ((5 : Nat) : Int)) ∧ True) rfl (by kernel_rfl) ⟨trivial, trivial, (by omega), trivial⟩ ?_
      refine RunR.st (some 54) (.load 86 (.tmp 53)) (Step.load_blk hU 0 b1 (0 + (j).toNat * 1) 89 (nums .u64 (os.set ((j).toNat) (IntKind.wrap .u64 ((os.getD ((j).toNat) 0) + c)))) (.int .u64 ((os.set ((j).toNat) (IntKind.wrap .u64 ((os.getD ((j).toNat) 0) + c))).getD ((j).toNat) 0)) (by kernel_rfl) (by kernel_rfl) (loadv_one (by kernel_rfl) (Seg.elem (i := (j).toNat) (show Seg _ 0 _ from Seg.all _) (by omega) (by omega))) (by kernel_rfl) ?_)
      have hm17 := and_le .u64 rfl ((os.set ((j).toNat) (IntKind.wrap .u64 ((os.getD ((j).toNat) 0) + c))).getD ((j).toNat) 0) 2251799813685247 (by decide) (by decide)
      refine RunR.sil hU [] 3 7 [1, 2, 5, 35, 55, 57] [(1, pt b1), (2, pt b2), (5, .int .u64 (((os.set ((j).toNat) (IntKind.wrap .u64 ((os.getD ((j).toNat) 0) + c))).getD ((j).toNat) 0) / 2 ^ 51)), (35, .int .i64 j), (55, .int .u64 (bits2 .and .u64 ((os.set ((j).toNat) (IntKind.wrap .u64 ((os.getD ((j).toNat) 0) + c))).getD ((j).toNat) 0) 2251799813685247)), (57, .pointer (some ⟨b1, 0 + (j).toNat * 1, none⟩))] ((True) ∧ (True) ∧ (0 ≤ j ∧ j < ((5 : Nat) : Int)) ∧ True) rfl (by kernel_rfl) ⟨trivial, trivial, (by omega), trivial⟩ ?_
      have hl18 : ((os.set ((j).toNat) (IntKind.wrap .u64 ((os.getD ((j).toNat) 0) + c))).set ((j).toNat) (bits2 .and .u64 ((os.set ((j).toNat) (IntKind.wrap .u64 ((os.getD ((j).toNat) 0) + c))).getD ((j).toNat) 0) 2251799813685247)).length = (os.set ((j).toNat) (IntKind.wrap .u64 ((os.getD ((j).toNat) 0) + c))).length := List.length_set
      refine RunR.st none (.store 86 (.tmp 57) (.tmp 55)) (Step.store_seg hU 0 b1 (0 + (j).toNat * 1) 89 (nums .u64 (os.set ((j).toNat) (IntKind.wrap .u64 ((os.getD ((j).toNat) 0) + c)))) (nums .u64 ((os.set ((j).toNat) (IntKind.wrap .u64 ((os.getD ((j).toNat) 0) + c))).set ((j).toNat) (bits2 .and .u64 ((os.set ((j).toNat) (IntKind.wrap .u64 ((os.getD ((j).toNat) 0) + c))).getD ((j).toNat) 0) 2251799813685247))) ([.int .u64 (bits2 .and .u64 ((os.set ((j).toNat) (IntKind.wrap .u64 ((os.getD ((j).toNat) 0) + c))).getD ((j).toNat) 0) 2251799813685247)]) (.int .u64 (bits2 .and .u64 ((os.set ((j).toNat) (IntKind.wrap .u64 ((os.getD ((j).toNat) 0) + c))).getD ((j).toNat) 0) 2251799813685247)) (by kernel_rfl) (by kernel_rfl) (by kernel_rfl) 1 (by kernel_rfl) (by kernel_rfl) (by rfl) (by kernel_rfl) ((Put.nth (i := (j).toNat) (by omega) rfl).at (by omega)) ?_)
      refine RunR.dn ?_
      refine kblock_n ?_
      refine kseq_n ?_
      refine RunC.region ?_
      refine RunR.sil hU [0] 2 2 [1, 2, 5, 35] [(1, pt b1), (2, pt b2), (5, .int .u64 (((os.set ((j).toNat) (IntKind.wrap .u64 ((os.getD ((j).toNat) 0) + c))).getD ((j).toNat) 0) / 2 ^ 51)), (35, .int .i64 (j + 1))] ((-9223372036854775808 ≤ (j + 1) ∧ (j + 1) < 9223372036854775808) ∧ (True) ∧ True) rfl (by kernel_rfl) ⟨(by omega), trivial, trivial⟩ ?_
      refine RunR.dn ?_
      refine kloop_n _ [1, 2, 5, 35] [0, 0] [(1, pt b1), (2, pt b2), (5, .int .u64 (((os.set ((j).toNat) (IntKind.wrap .u64 ((os.getD ((j).toNat) 0) + c))).getD ((j).toNat) 0) / 2 ^ 51)), (35, .int .i64 (j + 1))] [blk b1 89 (nums .u64 ((os.set ((j).toNat) (IntKind.wrap .u64 ((os.getD ((j).toNat) 0) + c))).set ((j).toNat) (bits2 .and .u64 ((os.set ((j).toNat) (IntKind.wrap .u64 ((os.getD ((j).toNat) 0) + c))).getD ((j).toNat) 0) 2251799813685247))), blk b2 89 (nums .u64 (List.replicate 5 (0 : Int)))] (by kernel_rfl) (by kernel_rfl) ?_ ⟨(j + 1), ((os.set ((j).toNat) (IntKind.wrap .u64 ((os.getD ((j).toNat) 0) + c))).set ((j).toNat) (bits2 .and .u64 ((os.set ((j).toNat) (IntKind.wrap .u64 ((os.getD ((j).toNat) 0) + c))).getD ((j).toNat) 0) 2251799813685247)), (((os.set ((j).toNat) (IntKind.wrap .u64 ((os.getD ((j).toNat) 0) + c))).getD ((j).toNat) 0) / 2 ^ 51), (by omega), (by assumption), (by rw [show (j + 1).toNat = j.toNat + 1 by omega]; exact (car_step hL2 (Int.le_refl _) (by omega) ho hc).1), (by rw [show (j + 1).toNat = j.toNat + 1 by omega]; exact (car_step hL2 (Int.le_refl _) (by omega) ho hc).2), (by simp only [List.length_set]; exact hol), rfl, (by rfl), (by rfl)⟩
      show ((5 - (j + 1)).toNat : Nat) < ((5 - j).toNat : Nat)
      omega
    · skip
      refine RunC.exit ?_
      refine kseq_e ?_
      refine kloop_e ?_
      refine kblock_e ?_
      refine kseq_n ?_
      refine RunC.sr ?_
      refine RunR.st (some 59) (.load 89 (.tmp 1)) (Step.load_blk hU 0 b1 (0) 89 (nums .u64 os) (ag .u64 os) (by kernel_rfl) (by kernel_rfl) (loadv_seg (n := 5) (by kernel_rfl) (by kernel_rfl) (Seg.all _) (by simp only [List.length_append, nums_length, List.length_cons, List.length_nil] <;> omega)) (by kernel_rfl) ?_)
      refine RunR.st none (.store 89 (.tmp 2) (.tmp 59)) (Step.ss hU 1 b2 (0) 89 (nums .u64 (List.replicate 5 (0 : Int))) (nums .u64 os) (nums .u64 os) (ag .u64 os) 5 (by (simp only [List.length_append, nums_length, List.length_cons, List.length_nil, List.length_replicate]; omega)) (show Put _ 0 _ _ from Put.all (by simp only [List.length_append, nums_length, List.length_cons, List.length_nil, List.length_replicate] <;> omega)) ?_)
      refine RunR.nn ?_
      refine RunC.ret ?_
      refine kret_r [ag .u64 os] [] [] ⟨⟨0, b2, 0, 89, nums .u64 os, rfl, rfl, (loadv_seg (U := U) (n := 5) (by kernel_rfl) (by kernel_rfl) (Seg.all _) (by simp only [List.length_append, nums_length, List.length_cons, List.length_nil] <;> omega))⟩, trivial⟩ (by kernel_rfl) rfl ⟨os, rfl, rfl, (by exact red_end hR.1 hR.2 hq5 (by rw [ho, show j = 5 by omega] <;> rfl)), (by exact hol)⟩
end Go.Proofs.Ytaaplakahkgclaa.X7
