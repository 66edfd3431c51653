/- What these functions compute: a contract for each, walked through its code. -/
import Derived.Test.YtaaplakahkgclaaSLzh
import Derived.Test.YtaaplakahkgclaaKPure
import Derived.Test.YtaaplakahkgclaaProg
import Derived.Test.YtaaplakahkgclaaX1
import Derived.Test.YtaaplakahkgclaaX2
namespace Go.Proofs.Ytaaplakahkgclaa.X3
open Go Go.Proofs.Ytaaplakahkgclaa.SL Go.Proofs.Ytaaplakahkgclaa.SL.W Go.Proofs.Ytaaplakahkgclaa.SL.F Go.Proofs.Ytaaplakahkgclaa.SL.N Go.Proofs.Ytaaplakahkgclaa.SL.E Go.Proofs.Ytaaplakahkgclaa.SL.K Go.Proofs.Ytaaplakahkgclaa.X1 Go.Proofs.Ytaaplakahkgclaa.X2
set_option linter.unusedVariables false
set_option linter.unusedSimpArgs false
set_option maxRecDepth 100000
set_option maxHeartbeats 40000000
def U : Tab where
  und := [(3, .int .i64), (86, .int .u64), (87, .array 5 86), (88, .struct #[{ name := "n", type := 87, offset := 0, embedded := false, tag := "", pkgPath := "orlop/field", byteOffset := 0 }]), (89, .struct #[{ name := "n", type := 87, offset := 0, embedded := false, tag := "", pkgPath := "orlop/field", byteOffset := 0 }])]
  fld := [((88, 0), (0, 87)), ((89, 0), (0, 87))]
  sz := [(3, 1), (86, 1), (87, 5), (88, 5), (89, 5)]
  ti := [(3, (1, 8, .int .i64 0)), (86, (1, 8, .int .u64 0)), (87, (5, 40, z5)), (88, (5, 40, z5)), (89, (5, 40, z5))]
  bld := [(88, [(0, 5)]), (89, [(0, 5)])]

theorem hU : U.OK Try.prog where
  und := by
    intro p hp
    simp only [U, List.mem_cons, List.not_mem_nil, or_false] at hp
    rcases hp with rfl | rfl | rfl | rfl | rfl
    · exact Try.underlying3
    · exact Try.underlying86
    · exact Try.underlying87
    · exact Try.underlying88
    · exact Try.underlying89
  fld := by
    intro p hp
    simp only [U, List.mem_cons, List.not_mem_nil, or_false] at hp
    rcases hp with rfl | rfl
    · exact ⟨_, _, Try.underlying88, rfl, rfl, rfl, Try.prog.types[87]!, by kernel_rfl, by decide +kernel⟩
    · exact ⟨_, _, Try.underlying89, rfl, rfl, rfl, Try.prog.types[87]!, by kernel_rfl, by decide +kernel⟩
  sz := by
    intro p hp
    simp only [U, List.mem_cons, List.not_mem_nil, or_false] at hp
    rcases hp with rfl | rfl | rfl | rfl | rfl
    · exact ⟨Try.prog.types[3]!, by kernel_rfl, by kernel_rfl⟩
    · exact ⟨Try.prog.types[86]!, by kernel_rfl, by kernel_rfl⟩
    · exact ⟨Try.prog.types[87]!, by kernel_rfl, by kernel_rfl⟩
    · exact ⟨Try.prog.types[88]!, by kernel_rfl, by kernel_rfl⟩
    · exact ⟨Try.prog.types[89]!, by kernel_rfl, by kernel_rfl⟩
  ti := by
    intro p hp
    simp only [U, List.mem_cons, List.not_mem_nil, or_false] at hp
    rcases hp with rfl | rfl | rfl | rfl | rfl
    · exact ⟨Try.prog.types[3]!, by kernel_rfl, by kernel_rfl, by kernel_rfl, by kernel_rfl⟩
    · exact ⟨Try.prog.types[86]!, by kernel_rfl, by kernel_rfl, by kernel_rfl, by kernel_rfl⟩
    · exact ⟨Try.prog.types[87]!, by kernel_rfl, by kernel_rfl, by kernel_rfl, by kernel_rfl⟩
    · exact ⟨Try.prog.types[88]!, by kernel_rfl, by kernel_rfl, by kernel_rfl, by kernel_rfl⟩
    · exact ⟨Try.prog.types[89]!, by kernel_rfl, by kernel_rfl, by kernel_rfl, by kernel_rfl⟩
  bld := by
    intro p hp
    simp only [U, List.mem_cons, List.not_mem_nil, or_false] at hp
    rcases hp with rfl | rfl
    · exact ⟨_, Try.underlying88, by kernel_rfl⟩
    · exact ⟨_, Try.underlying89, by kernel_rfl⟩
  mixed := by kernel_rfl

theorem f_Add_spec (xs : List Int) (v : Int) (ys : List Int) (w : Int) (hE : El xs v) (hl : xs.length = 5) (hF : El ys w) (hm : ys.length = 5) :
    CallsS Try.prog 89 [ag .u64 xs, ag .u64 ys] [] (fun r D => ∃ (zs : List Int), r = ag .u64 zs ∧ D = [] ∧ (El zs ((v + w) % P)) ∧ (zs.length = 5)) := by
  refine CallsS.enter hU Try.f89 _ [.cell 4 89] 23 Try.func89 rfl (by decide) rfl rfl (by kernel_rfl) fun w0 W => ?_
  refine RunC.sr ?_
  refine RunR.st (some 2) (.box 89 (.tmp 0)) (Step.box (ag .u64 xs) (by kernel_rfl) (by kernel_rfl) (fun b1 => ?_))
  refine RunR.st (some 3) (.box 89 (.tmp 1)) (Step.box (ag .u64 ys) (by kernel_rfl) (by kernel_rfl) (fun b2 => ?_))
  refine RunR.st (some 4) (.alloc 89) (Step.al hU 5 40 z5 (fun b3 => ?_))
  have hl4 : (List.replicate 5 (0 : Int)).length = 5 := List.length_replicate
  refine RunR.nn ?_
  refine RunC.seq ?_
  refine RunC.sr ?_
  refine RunR.sl hU [] 1 1 [2, 3, 4, 6] [(2, pt b1), (3, pt b2), (4, pt b3), (6, .int .i64 0)] 1 ?_
  refine RunR.nn ?_
  refine RunC.block ?_
  refine RunC.env [2, 3, 4, 6] [(2, pt b1), (3, pt b2), (4, pt b3), (6, .int .i64 0)] (by kernel_rfl) ?_
  refine RunC.only [2, 0, 0] [blk b1 89 (nums .u64 xs), blk b3 89 (nums .u64 (List.replicate 5 (0 : Int))), blk b2 89 (nums .u64 ys)] (by kernel_rfl) ?_
  refine RunC.loop (σ := Nat) (fun n_ t_ D_ => ∃ (i : Int) (os : List Int), (0 ≤ i) ∧ (i ≤ 5) ∧ (os = addV xs ys i.toNat) ∧ (os.length = 5) ∧ n_ = ((5 - i).toNat : Nat) ∧ t_ = [(2, pt b1), (3, pt b2), (4, pt b3), (6, .int .i64 i)] ∧ D_ = [blk b1 89 (nums .u64 os), blk b3 89 (nums .u64 (List.replicate 5 (0 : Int))), blk b2 89 (nums .u64 ys)]) id _ ⟨0, xs, (by omega), (by omega), (by rfl), (by assumption), rfl, rfl, rfl⟩ ?_
  rintro n_ _ _ ⟨i, os, hi, hi2, ho, hol, rfl, rfl, rfl⟩
  refine RunC.sr ?_
  refine RunR.sl hU [] 1 1 [2, 3, 4, 6, 7] [(2, pt b1), (3, pt b2), (4, pt b3), (6, .int .i64 i), (7, .bool (decide (i < 5)))] 1 ?_
  refine RunR.nn ?_
  refine RunC.seq ?_
  refine RunC.condp (i < 5) (by kernel_rfl) (fun h5 => ?_) (fun h5 => ?_)
  · skip
    refine RunC.ks ?_
    refine RunC.seq ?_
    refine RunC.block ?_
    refine RunC.sr ?_
    refine RunR.sl hU [] 2 2 [2, 3, 4, 5, 6] [(2, pt b1), (3, pt b2), (4, pt b3), (5, .int .i64 i), (6, .int .i64 i)] 2 ?_
    refine RunR.nn ?_
    refine RunC.regionU hU 12 [blk b1 89 (nums .u64 os), blk b2 89 (nums .u64 ys)] [0, 2] [10, 11] (bm 12 0) (by kernel_rfl) (by kernel_rfl) (by kernel_rfl) ?_
    refine RunU.sl hU 0 (bm 12 1) 9 (.int .i64 i) ?_
    refine RunU.sl hU 1 (bm 12 3) 10 (pt b1) ?_
    refine RunU.sil hU false 2 (bm 12 7) 11 (.pointer (some ⟨b1, 0 + (i).toNat * 1, none⟩)) (0 ≤ i ∧ i < ((5 : Nat) : Int)) (by kernel_rfl) (by omega) (by kernel_rfl) (by kernel_rfl) (fun _ _ _ h => h) ?_
    refine RunU.rd 3 (bm 12 15) 12 (.load 86 (.tmp 11)) (.int .u64 (os.getD ((i).toNat) 0)) [0, 2] (Reads.load_blk hU 0 b1 (0 + (i).toNat * 1) 89 (nums .u64 os) (.int .u64 (os.getD ((i).toNat) 0)) (by kernel_rfl) (by kernel_rfl) (loadv_one (by kernel_rfl) (Seg.elem (i := (i).toNat) (show Seg _ 0 _ from Seg.all _) (by omega) (by omega)))) ?_
    refine RunU.sl hU 4 (bm 12 31) 13 (.int .i64 i) ?_
    refine RunU.sl hU 5 (bm 12 63) 14 (pt b2) ?_
    refine RunU.sil hU false 6 (bm 12 127) 15 (.pointer (some ⟨b2, 0 + (i).toNat * 1, none⟩)) (0 ≤ i ∧ i < ((5 : Nat) : Int)) (by kernel_rfl) (by omega) (by kernel_rfl) (by kernel_rfl) (fun _ _ _ h => h) ?_
    refine RunU.rd 7 (bm 12 255) 16 (.load 86 (.tmp 15)) (.int .u64 (ys.getD ((i).toNat) 0)) [0, 2] (Reads.load_blk hU 1 b2 (0 + (i).toNat * 1) 89 (nums .u64 ys) (.int .u64 (ys.getD ((i).toNat) 0)) (by kernel_rfl) (by kernel_rfl) (loadv_one (by kernel_rfl) (Seg.elem (i := (i).toNat) (show Seg _ 0 _ from Seg.all _) (by omega) (by omega)))) ?_
    refine RunU.sl hU 8 (bm 12 511) 17 (.int .u64 (IntKind.wrap .u64 ((os.getD ((i).toNat) 0) + (ys.getD ((i).toNat) 0)))) ?_
    refine RunU.sl hU 9 (bm 12 1023) 18 (pt b1) ?_
    refine RunU.sil hU false 10 (bm 12 2047) 19 (.pointer (some ⟨b1, 0 + (i).toNat * 1, none⟩)) (0 ≤ i ∧ i < ((5 : Nat) : Int)) (by kernel_rfl) (by omega) (by kernel_rfl) (by kernel_rfl) (fun _ _ _ h => h) ?_
    have hl6 : (os.set ((i).toNat) (IntKind.wrap .u64 ((os.getD ((i).toNat) 0) + (ys.getD ((i).toNat) 0)))).length = os.length := List.length_set
    refine RunU.on none (.store 86 (.tmp 19) (.tmp 17)) 11 (bm 12 4095) [] (Step.store_seg hU 0 b1 (0 + (i).toNat * 1) 89 (nums .u64 os) (nums .u64 (os.set ((i).toNat) (IntKind.wrap .u64 ((os.getD ((i).toNat) 0) + (ys.getD ((i).toNat) 0))))) ([.int .u64 (IntKind.wrap .u64 ((os.getD ((i).toNat) 0) + (ys.getD ((i).toNat) 0)))]) (.int .u64 (IntKind.wrap .u64 ((os.getD ((i).toNat) 0) + (ys.getD ((i).toNat) 0)))) (by kernel_rfl) (by kernel_rfl) (by kernel_rfl) 1 (by kernel_rfl) (by kernel_rfl) (by rfl) (by kernel_rfl) ((Put.nth (i := (i).toNat) (by omega) rfl).at (by omega)) ?_)
    refine orR ?_
    refine RunU.ev [2, 3, 4, 6] [(2, pt b1), (3, pt b2), (4, pt b3), (6, .int .i64 i)] ?_
    refine RunU.dn ?_
    refine kblock_n ?_
    refine kseq_n ?_
    refine RunC.region ?_
    refine RunR.sil hU [0] 2 2 [2, 3, 4, 6] [(2, pt b1), (3, pt b2), (4, pt b3), (6, .int .i64 (i + 1))] ((-9223372036854775808 ≤ (i + 1) ∧ (i + 1) < 9223372036854775808) ∧ (True) ∧ True) rfl (by kernel_rfl) ⟨(by omega), trivial, trivial⟩ ?_
    refine RunR.dn ?_
    refine kloop_n _ [2, 3, 4, 6] [0, 0, 0] [(2, pt b1), (3, pt b2), (4, pt b3), (6, .int .i64 (i + 1))] [blk b1 89 (nums .u64 (os.set ((i).toNat) (IntKind.wrap .u64 ((os.getD ((i).toNat) 0) + (ys.getD ((i).toNat) 0))))), blk b3 89 (nums .u64 (List.replicate 5 (0 : Int))), blk b2 89 (nums .u64 ys)] (by kernel_rfl) (by kernel_rfl) ?_ ⟨(i + 1), (os.set ((i).toNat) (IntKind.wrap .u64 ((os.getD ((i).toNat) 0) + (ys.getD ((i).toNat) 0)))), (by omega), (by assumption), (by rw [show (i + 1).toNat = i.toNat + 1 by omega]; exact addV_step hE.lim hF.lim (by decide) (by omega) ho), (by simp only [List.length_set]; exact hol), rfl, (by rfl), (by rfl)⟩
    show ((5 - (i + 1)).toNat : Nat) < ((5 - i).toNat : Nat)
    omega
  · skip
    refine RunC.exit ?_
    refine kseq_e ?_
    refine kloop_e ?_
    refine kblock_e ?_
    refine kseq_n ?_
    refine RunC.sr ?_
    refine RunR.st (some 21) (.load 89 (.tmp 2)) (Step.load_blk hU 0 b1 (0) 89 (nums .u64 os) (ag .u64 os) (by kernel_rfl) (by kernel_rfl) (loadv_seg (n := 5) (by kernel_rfl) (by kernel_rfl) (Seg.all _) (by simp only [List.length_append, nums_length, List.length_cons, List.length_nil] <;> omega)) (by kernel_rfl) ?_)
    refine RunR.st (some 22) (.call { callee := .value (.func 96), args := #[.tmp 21], argTypes := #[89] }) (Step.cn 96 [ag .u64 os] [] [blk b1 89 (nums .u64 os), blk b3 89 (nums .u64 (List.replicate 5 (0 : Int))), blk b2 89 (nums .u64 ys)] (f_carried_spec os (by rw [ho, show i = 5 by omega]; exact (addV_el hE hF).1) (by assumption)) [] ?_)
    rintro _ _ ⟨zs7, rfl, rfl, hp8, hp9⟩
    refine RunR.st none (.store 89 (.tmp 4) (.tmp 22)) (Step.ss hU 1 b3 (0) 89 (nums .u64 (List.replicate 5 (0 : Int))) (nums .u64 zs7) (nums .u64 zs7) (ag .u64 zs7) 5 (by (simp only [List.length_append, nums_length, List.length_cons, List.length_nil, List.length_replicate]; omega)) (show Put _ 0 _ _ from Put.all (by simp only [List.length_append, nums_length, List.length_cons, List.length_nil, List.length_replicate] <;> omega)) ?_)
    refine RunR.nn ?_
    refine RunC.ret ?_
    refine kret_r [ag .u64 zs7] [] [] ⟨⟨0, b3, 0, 89, nums .u64 zs7, rfl, rfl, (loadv_seg (U := U) (n := 5) (by kernel_rfl) (by kernel_rfl) (Seg.all _) (by simp only [List.length_append, nums_length, List.length_cons, List.length_nil] <;> omega))⟩, trivial⟩ (by kernel_rfl) rfl ⟨zs7, rfl, rfl, (by simp only [hp8]; refine El.carr (b := 9223372036854775808) ?_ (Int.le_refl _) ?_ <;> rw [ho, show i = 5 by omega] <;> first | exact (addV_el hE hF).1 | exact (addV_el hE hF).2), (by assumption)⟩
end Go.Proofs.Ytaaplakahkgclaa.X3
