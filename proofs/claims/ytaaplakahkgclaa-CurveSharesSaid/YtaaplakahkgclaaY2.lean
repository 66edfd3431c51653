/- What these functions compute: a contract for each, walked through its code. -/
import Derived.Test.YtaaplakahkgclaaSLzh
import Derived.Test.YtaaplakahkgclaaKPure
import Derived.Test.YtaaplakahkgclaaProg
import Derived.Test.YtaaplakahkgclaaX1
import Derived.Test.YtaaplakahkgclaaX2
import Derived.Test.YtaaplakahkgclaaX3
import Derived.Test.YtaaplakahkgclaaX4
import Derived.Test.YtaaplakahkgclaaX5
import Derived.Test.YtaaplakahkgclaaX6
import Derived.Test.YtaaplakahkgclaaX7
import Derived.Test.YtaaplakahkgclaaX8
import Derived.Test.YtaaplakahkgclaaX9
import Derived.Test.YtaaplakahkgclaaY1
namespace Go.Proofs.Ytaaplakahkgclaa.Y2
open Go Go.Proofs.Ytaaplakahkgclaa.SL Go.Proofs.Ytaaplakahkgclaa.SL.W Go.Proofs.Ytaaplakahkgclaa.SL.F Go.Proofs.Ytaaplakahkgclaa.SL.N Go.Proofs.Ytaaplakahkgclaa.SL.E Go.Proofs.Ytaaplakahkgclaa.SL.K Go.Proofs.Ytaaplakahkgclaa.X1 Go.Proofs.Ytaaplakahkgclaa.X2 Go.Proofs.Ytaaplakahkgclaa.X3 Go.Proofs.Ytaaplakahkgclaa.X4 Go.Proofs.Ytaaplakahkgclaa.X5 Go.Proofs.Ytaaplakahkgclaa.X6 Go.Proofs.Ytaaplakahkgclaa.X7 Go.Proofs.Ytaaplakahkgclaa.X8 Go.Proofs.Ytaaplakahkgclaa.X9 Go.Proofs.Ytaaplakahkgclaa.Y1
set_option linter.unusedVariables false
set_option linter.unusedSimpArgs false
set_option maxRecDepth 100000
set_option maxHeartbeats 40000000
def U : Tab where
  und := [(3, .int .i64), (91, .array 32 3), (92, .array 32 3), (96, .int .u32), (114, .int .u64)]
  fld := []
  sz := [(3, 1), (91, 32), (92, 32), (96, 1), (114, 1)]
  ti := [(3, (1, 8, .int .i64 0)), (91, (32, 256, z32)), (92, (32, 256, z32)), (96, (1, 4, .int .u32 0)), (114, (1, 8, .int .u64 0))]
  bld := []

theorem hU : U.OK Try.prog where
  und := by
    intro p hp
    simp only [U, List.mem_cons, List.not_mem_nil, or_false] at hp
    rcases hp with rfl | rfl | rfl | rfl | rfl
    · exact Try.underlying3
    · exact Try.underlying91
    · exact Try.underlying92
    · exact Try.underlying96
    · exact Try.underlying114
  fld := by
    intro p hp; cases hp
  sz := by
    intro p hp
    simp only [U, List.mem_cons, List.not_mem_nil, or_false] at hp
    rcases hp with rfl | rfl | rfl | rfl | rfl
    · exact ⟨Try.prog.types[3]!, by kernel_rfl, by kernel_rfl⟩
    · exact ⟨Try.prog.types[91]!, by kernel_rfl, by kernel_rfl⟩
    · exact ⟨Try.prog.types[92]!, by kernel_rfl, by kernel_rfl⟩
    · exact ⟨Try.prog.types[96]!, by kernel_rfl, by kernel_rfl⟩
    · exact ⟨Try.prog.types[114]!, by kernel_rfl, by kernel_rfl⟩
  ti := by
    intro p hp
    simp only [U, List.mem_cons, List.not_mem_nil, or_false] at hp
    rcases hp with rfl | rfl | rfl | rfl | rfl
    · exact ⟨Try.prog.types[3]!, by kernel_rfl, by kernel_rfl, by kernel_rfl, by kernel_rfl⟩
    · exact ⟨Try.prog.types[91]!, by kernel_rfl, by kernel_rfl, by kernel_rfl, by kernel_rfl⟩
    · exact ⟨Try.prog.types[92]!, by kernel_rfl, by kernel_rfl, by kernel_rfl, by kernel_rfl⟩
    · exact ⟨Try.prog.types[96]!, by kernel_rfl, by kernel_rfl, by kernel_rfl, by kernel_rfl⟩
    · exact ⟨Try.prog.types[114]!, by kernel_rfl, by kernel_rfl, by kernel_rfl, by kernel_rfl⟩
  bld := by
    intro p hp; cases hp
  mixed := by kernel_rfl

theorem n_prime_spec  :
    CallsS Try.prog 102 [] [] (fun r D => ∃ (zs : List Int), r = ag .i64 zs ∧ D = [] ∧ (Dg zs (P)) ∧ (zs.length = 32)) := by
  refine CallsS.enter hU Try.f102 _ [.cell 0 92] 12 Try.func102 rfl (by decide) rfl rfl (by kernel_rfl) fun w0 W => ?_
  refine RunC.sr ?_
  refine RunR.st (some 0) (.alloc 92) (Step.al hU 32 256 z32 (fun b1 => ?_))
  have hl2 : (List.replicate 32 (0 : Int)).length = 32 := List.length_replicate
  refine RunR.nx ?_
  refine RunR.st (some 1) (.alloc 92) (Step.al hU 32 256 z32 (fun b3 => ?_))
  have hl4 : (List.replicate 32 (0 : Int)).length = 32 := List.length_replicate
  refine RunR.nn ?_
  refine RunC.seq ?_
  refine RunC.sr ?_
  refine RunR.sl hU [] 1 1 [0, 1, 2] [(0, pt b1), (1, pt b3), (2, .int .i64 0)] 1 ?_
  refine RunR.nn ?_
  refine RunC.block ?_
  refine RunC.env [0, 1, 2] [(0, pt b1), (1, pt b3), (2, .int .i64 0)] (by kernel_rfl) ?_
  refine RunC.only [0, 0] [blk b3 92 (nums .i64 (List.replicate 32 (0 : Int))), blk b1 92 (nums .i64 (List.replicate 32 (0 : Int)))] (by kernel_rfl) ?_
  refine RunC.loop (σ := Nat) (fun n_ t_ D_ => ∃ (i : Int) (os : List Int), (0 ≤ i) ∧ (i ≤ 32) ∧ (os = mapP (fun _ => 255) (List.replicate 32 0) i.toNat) ∧ (os.length = 32) ∧ n_ = ((32 - i).toNat : Nat) ∧ t_ = [(0, pt b1), (1, pt b3), (2, .int .i64 i)] ∧ D_ = [blk b3 92 (nums .i64 os), blk b1 92 (nums .i64 (List.replicate 32 (0 : Int)))]) id _ ⟨0, (List.replicate 32 (0 : Int)), (by omega), (by omega), (by rfl), (by rfl), rfl, rfl, rfl⟩ ?_
  rintro n_ _ _ ⟨i, os, hi, hi2, ho, hol, rfl, rfl, rfl⟩
  refine RunC.seq ?_
  refine RunC.sr ?_
  refine RunR.sl hU [] 2 2 [0, 1, 2, 4] [(0, pt b1), (1, pt b3), (2, .int .i64 i), (4, .bool (decide (i < 32)))] 2 ?_
  refine RunR.nn ?_
  refine RunC.condp (i < 32) (by kernel_rfl) (fun h5 => ?_) (fun h5 => ?_)
  · skip
    refine RunC.ks ?_
    refine RunC.seq ?_
    refine RunC.block ?_
    refine RunC.region ?_
    refine RunR.sil hU [] 2 2 [0, 1, 2, 8] [(0, pt b1), (1, pt b3), (2, .int .i64 i), (8, .pointer (some ⟨b3, 0 + (i).toNat * 1, none⟩))] ((True) ∧ (0 ≤ i ∧ i < ((32 : Nat) : Int)) ∧ True) rfl (by kernel_rfl) ⟨trivial, (by omega), trivial⟩ ?_
    refine RunR.st none (.store 3 (.tmp 8) (.const (.int .i64 255))) (Step.store_blknum hU 0 b3 (0 + (i).toNat * 1) 92 ((i).toNat) .i64 os 255 (by kernel_rfl) (by kernel_rfl) (by kernel_rfl) rfl (by omega) (by omega) ?_)
    have hl6 : (os.set ((i).toNat) 255).length = os.length := List.length_set
    refine RunR.dn ?_
    refine kblock_n ?_
    refine kseq_n ?_
    refine RunC.region ?_
    refine RunR.sil hU [1] 3 3 [0, 1, 2] [(0, pt b1), (1, pt b3), (2, .int .i64 (i + 1))] ((True) ∧ (-9223372036854775808 ≤ (i + 1) ∧ (i + 1) < 9223372036854775808) ∧ (True) ∧ True) rfl (by kernel_rfl) ⟨trivial, (by omega), trivial, trivial⟩ ?_
    refine RunR.dn ?_
    refine kloop_n _ [0, 1, 2] [0, 0] [(0, pt b1), (1, pt b3), (2, .int .i64 (i + 1))] [blk b3 92 (nums .i64 (os.set ((i).toNat) 255)), blk b1 92 (nums .i64 (List.replicate 32 (0 : Int)))] (by kernel_rfl) (by kernel_rfl) ?_ ⟨(i + 1), (os.set ((i).toNat) 255), (by omega), (by assumption), (by rw [ho]; exact prime_step (by omega) (by omega)), (by rw [List.length_set]; exact hol), rfl, (by rfl), (by rfl)⟩
    show ((32 - (i + 1)).toNat : Nat) < ((32 - i).toNat : Nat)
    omega
  · skip
    refine RunC.exit ?_
    refine kseq_e ?_
    refine kloop_e ?_
    refine kblock_e ?_
    refine kseq_n ?_
    refine RunC.sr ?_
    refine RunR.sil hU [] 1 1 [0, 1, 9] [(0, pt b1), (1, pt b3), (9, pt b3)] ((0 ≤ (0 : Int) ∧ (0 : Int) < ((32 : Nat) : Int)) ∧ True) rfl (by kernel_rfl) ⟨(by omega), trivial⟩ ?_
    refine RunR.st none (.store 3 (.tmp 9) (.const (.int .i64 237))) (Step.store_blknum hU 0 b3 (0) 92 0 .i64 os 237 (by kernel_rfl) (by kernel_rfl) (by kernel_rfl) rfl (by omega) (by omega) ?_)
    have hl7 : (os.set 0 237).length = os.length := List.length_set
    refine RunR.nx ?_
    refine RunR.sil hU [] 1 1 [0, 1, 10] [(0, pt b1), (1, pt b3), (10, .pointer (some ⟨b3, 31, none⟩))] ((0 ≤ (31 : Int) ∧ (31 : Int) < ((32 : Nat) : Int)) ∧ True) rfl (by kernel_rfl) ⟨(by omega), trivial⟩ ?_
    refine RunR.st none (.store 3 (.tmp 10) (.const (.int .i64 127))) (Step.store_blknum hU 0 b3 (31) 92 31 .i64 (os.set 0 237) 127 (by kernel_rfl) (by kernel_rfl) (by kernel_rfl) rfl (by omega) (by omega) ?_)
    have hl8 : ((os.set 0 237).set 31 127).length = (os.set 0 237).length := List.length_set
    refine RunR.nx ?_
    refine RunR.st (some 11) (.load 92 (.tmp 1)) (Step.load_arr hU 0 b3 92 32 .i64 ((os.set 0 237).set 31 127) (by kernel_rfl) (by kernel_rfl) (by kernel_rfl) (by kernel_rfl) (by omega) (by kernel_rfl) ?_)
    refine RunR.st none (.store 92 (.tmp 0) (.tmp 11)) (Step.store_arr hU 1 b1 92 32 .i64 (List.replicate 32 (0 : Int)) ((os.set 0 237).set 31 127) (by kernel_rfl) (by kernel_rfl) (by kernel_rfl) (by kernel_rfl) (by rfl) (by omega) ?_)
    refine RunR.nn ?_
    refine RunC.ret ?_
    refine kret_r [.agg (nums .i64 ((os.set 0 237).set 31 127)).toArray] [] [] ⟨⟨0, b1, 0, 92, nums .i64 ((os.set 0 237).set 31 127), rfl, rfl, (loadv_arr (U := U) (n := 32) (by kernel_rfl) (by kernel_rfl) (by omega))⟩, trivial⟩ (by kernel_rfl) rfl ⟨((os.set 0 237).set 31 127), rfl, rfl, (by rw [ho, show i = 32 by omega]; exact primeL_dg), (by rw [List.length_set, List.length_set]; exact hol)⟩

theorem n_less_spec (xs : List Int) (x : Int) (ys : List Int) (y : Int) (hX : Dg xs x) (hlx : xs.length = 32) (hY : Dg ys y) (hly : ys.length = 32) :
    CallsS Try.prog 103 [ag .i64 xs, ag .i64 ys] [] (fun r D => r = .bool (decide (x < y)) ∧ D = []) := by
  refine CallsS.enter hU Try.f103 _ [.tmp 4] 24 Try.func103 rfl (by decide) rfl rfl (by kernel_rfl) fun w0 W => ?_
  refine RunC.sr ?_
  refine RunR.st (some 2) (.box 92 (.tmp 0)) (Step.box (ag .i64 xs) (by kernel_rfl) (by kernel_rfl) (fun b1 => ?_))
  refine RunR.st (some 3) (.box 92 (.tmp 1)) (Step.box (ag .i64 ys) (by kernel_rfl) (by kernel_rfl) (fun b2 => ?_))
  refine RunR.sl hU [] 1 3 [2, 3, 4] [(2, pt b1), (3, pt b2), (4, .bool false)] 1 ?_
  refine RunR.nn ?_
  refine RunC.seq ?_
  refine RunC.sr ?_
  refine RunR.sl hU [] 1 1 [2, 3, 4, 5] [(2, pt b1), (3, pt b2), (4, .bool false), (5, .int .i64 31)] 1 ?_
  refine RunR.nn ?_
  refine RunC.block ?_
  refine RunC.env [2, 3, 5] [(2, pt b1), (3, pt b2), (5, .int .i64 31)] (by kernel_rfl) ?_
  refine RunC.only [0, 0] [blk b2 92 (nums .i64 ys), blk b1 92 (nums .i64 xs)] (by kernel_rfl) ?_
  refine RunC.loop (σ := Nat) (fun n_ t_ D_ => ∃ (i : Int), (-1 ≤ i) ∧ (i ≤ 31) ∧ (xs.drop (i + 1).toNat = ys.drop (i + 1).toNat) ∧ (In .i64 xs) ∧ (In .i64 ys) ∧ n_ = ((i + 1).toNat : Nat) ∧ t_ = [(2, pt b1), (3, pt b2), (5, .int .i64 i)] ∧ D_ = [blk b2 92 (nums .i64 ys), blk b1 92 (nums .i64 xs)]) id _ ⟨31, (by omega), (by omega), (by rw [List.drop_of_length_le (by rw [hlx]; decide), List.drop_of_length_le (by rw [hly]; decide)]), (by exact hX.i64), (by exact hY.i64), rfl, rfl, rfl⟩ ?_
  rintro n_ _ _ ⟨i, hi, hi2, hd, hix, hiy, rfl, rfl, rfl⟩
  refine RunC.seq ?_
  refine RunC.sr ?_
  refine RunR.sl hU [] 2 2 [2, 3, 5, 7] [(2, pt b1), (3, pt b2), (5, .int .i64 i), (7, .bool (decide (i ≥ 0)))] 2 ?_
  refine RunR.nn ?_
  refine RunC.condp (i ≥ 0) (by kernel_rfl) (fun h3 => ?_) (fun h3 => ?_)
  · skip
    refine RunC.ks ?_
    refine RunC.seq ?_
    refine RunC.block ?_
    refine RunC.seq ?_
    refine RunC.regionU hU 7 [blk b1 92 (nums .i64 xs), blk b2 92 (nums .i64 ys)] [1, 0] [] (bm 7 0) (by kernel_rfl) (by kernel_rfl) (by kernel_rfl) ?_
    refine RunU.sl hU 0 (bm 7 1) 10 (.int .i64 i) ?_
    refine RunU.sil hU false 1 (bm 7 3) 11 (.pointer (some ⟨b1, 0 + (i).toNat * 1, none⟩)) (0 ≤ i ∧ i < ((32 : Nat) : Int)) (by kernel_rfl) (by omega) (by kernel_rfl) (by kernel_rfl) (fun _ _ _ h => h) ?_
    refine RunU.rd 2 (bm 7 7) 12 (.load 3 (.tmp 11)) (.int .i64 (xs.getD ((i).toNat) 0)) [1, 0] (Reads.load_blknum hU 0 b1 (0 + (i).toNat * 1) 92 ((i).toNat) .i64 xs rfl (by kernel_rfl) (by kernel_rfl) (by omega) (by omega)) ?_
    have hb4 : -9223372036854775808 ≤ xs.getD ((i).toNat) 0 ∧ xs.getD ((i).toNat) 0 < 9223372036854775808 := hix.at_ _
    refine RunU.sl hU 3 (bm 7 15) 13 (.int .i64 i) ?_
    refine RunU.sil hU false 4 (bm 7 31) 14 (.pointer (some ⟨b2, 0 + (i).toNat * 1, none⟩)) (0 ≤ i ∧ i < ((32 : Nat) : Int)) (by kernel_rfl) (by omega) (by kernel_rfl) (by kernel_rfl) (fun _ _ _ h => h) ?_
    refine RunU.rd 5 (bm 7 63) 15 (.load 3 (.tmp 14)) (.int .i64 (ys.getD ((i).toNat) 0)) [1, 0] (Reads.load_blknum hU 1 b2 (0 + (i).toNat * 1) 92 ((i).toNat) .i64 ys rfl (by kernel_rfl) (by kernel_rfl) (by omega) (by omega)) ?_
    have hb5 : -9223372036854775808 ≤ ys.getD ((i).toNat) 0 ∧ ys.getD ((i).toNat) 0 < 9223372036854775808 := hiy.at_ _
    refine RunU.sl hU 6 (bm 7 127) 16 (.bool (!decide ((xs.getD ((i).toNat) 0) = (ys.getD ((i).toNat) 0)))) ?_
    refine RunU.ev [2, 3, 5, 16] [(2, pt b1), (3, pt b2), (5, .int .i64 i), (16, .bool (!decide ((xs.getD ((i).toNat) 0) = (ys.getD ((i).toNat) 0))))] ?_
    refine RunU.dn ?_
    refine kseq_n ?_
    refine RunC.condn ((xs.getD ((i).toNat) 0) = (ys.getD ((i).toNat) 0)) (by kernel_rfl) (fun h6 => ?_) (fun h6 => ?_)
    · skip
      refine RunC.seq ?_
      refine RunC.regionU hU 8 [blk b1 92 (nums .i64 xs), blk b2 92 (nums .i64 ys)] [1, 0] [7] (bm 8 0) (by kernel_rfl) (by kernel_rfl) (by kernel_rfl) ?_
      refine RunU.sl hU 0 (bm 8 1) 17 (.int .i64 i) ?_
      refine RunU.sil hU false 1 (bm 8 3) 18 (.pointer (some ⟨b1, 0 + (i).toNat * 1, none⟩)) (0 ≤ i ∧ i < ((32 : Nat) : Int)) (by kernel_rfl) (by omega) (by kernel_rfl) (by kernel_rfl) (fun _ _ _ h => h) ?_
      refine RunU.rd 2 (bm 8 7) 19 (.load 3 (.tmp 18)) (.int .i64 (xs.getD ((i).toNat) 0)) [1, 0] (Reads.load_blknum hU 0 b1 (0 + (i).toNat * 1) 92 ((i).toNat) .i64 xs rfl (by kernel_rfl) (by kernel_rfl) (by omega) (by omega)) ?_
      have hb7 : -9223372036854775808 ≤ xs.getD ((i).toNat) 0 ∧ xs.getD ((i).toNat) 0 < 9223372036854775808 := hix.at_ _
      refine RunU.sl hU 3 (bm 8 15) 20 (.int .i64 i) ?_
      refine RunU.sil hU false 4 (bm 8 31) 21 (.pointer (some ⟨b2, 0 + (i).toNat * 1, none⟩)) (0 ≤ i ∧ i < ((32 : Nat) : Int)) (by kernel_rfl) (by omega) (by kernel_rfl) (by kernel_rfl) (fun _ _ _ h => h) ?_
      refine RunU.rd 5 (bm 8 63) 22 (.load 3 (.tmp 21)) (.int .i64 (ys.getD ((i).toNat) 0)) [1, 0] (Reads.load_blknum hU 1 b2 (0 + (i).toNat * 1) 92 ((i).toNat) .i64 ys rfl (by kernel_rfl) (by kernel_rfl) (by omega) (by omega)) ?_
      have hb8 : -9223372036854775808 ≤ ys.getD ((i).toNat) 0 ∧ ys.getD ((i).toNat) 0 < 9223372036854775808 := hiy.at_ _
      refine RunU.sl hU 6 (bm 8 127) 23 (.bool (decide ((xs.getD ((i).toNat) 0) < (ys.getD ((i).toNat) 0)))) ?_
      refine RunU.sl hU 7 (bm 8 255) 4 (.bool (decide ((xs.getD ((i).toNat) 0) < (ys.getD ((i).toNat) 0)))) ?_
      refine RunU.ev [2, 3, 4, 5] [(2, pt b1), (3, pt b2), (4, .bool (decide ((xs.getD ((i).toNat) 0) < (ys.getD ((i).toNat) 0)))), (5, .int .i64 i)] ?_
      refine RunU.dn ?_
      refine kseq_n ?_
      refine RunC.ret ?_
      refine kblock_r ?_
      refine kseq_r ?_
      refine kloop_r ?_
      refine kblock_r ?_
      refine kseq_r ?_
      refine kret_r [.bool (decide ((xs.getD ((i).toNat) 0) < (ys.getD ((i).toNat) 0)))] [] [] ⟨rfl, trivial⟩ (by kernel_rfl) rfl ⟨(by (exact congrArg Value.bool (less_ret hX hY (by omega) (by rw [show (i + 1).toNat = i.toNat + 1 by omega] at hd; exact hd) (by assumption)))), (by rfl)⟩
    · skip
      refine RunC.skip ?_
      refine kblock_n ?_
      refine kseq_n ?_
      refine RunC.region ?_
      refine RunR.sil hU [1] 3 3 [2, 3, 5] [(2, pt b1), (3, pt b2), (5, .int .i64 (i - 1))] ((True) ∧ (-9223372036854775808 ≤ (i - 1) ∧ (i - 1) < 9223372036854775808) ∧ (True) ∧ True) rfl (by kernel_rfl) ⟨trivial, (by omega), trivial, trivial⟩ ?_
      refine RunR.dn ?_
      refine kloop_n _ [2, 3, 5] [0, 0] [(2, pt b1), (3, pt b2), (5, .int .i64 (i - 1))] [blk b2 92 (nums .i64 ys), blk b1 92 (nums .i64 xs)] (by kernel_rfl) (by kernel_rfl) ?_ ⟨(i - 1), (by omega), (by omega), (by rw [show (i - 1 + 1).toNat = i.toNat by omega]; rw [show (i + 1).toNat = i.toNat + 1 by omega] at hd; exact drop_step (by omega) (by omega) hd (by omega)), hix, hiy, rfl, (by rfl), (by rfl)⟩
      show (((i - 1) + 1).toNat : Nat) < ((i + 1).toNat : Nat)
      omega
  · skip
    refine RunC.exit ?_
    refine kseq_e ?_
    refine kloop_e ?_
    refine kblock_e ?_
    refine kseq_n ?_
    refine RunC.sr ?_
    refine RunR.sl hU [] 1 1 [4] [(4, .bool false)] 1 ?_
    refine RunR.nn ?_
    refine RunC.ret ?_
    refine kret_r [.bool false] [] [] ⟨rfl, trivial⟩ (by kernel_rfl) rfl ⟨(by (exact congrArg Value.bool (less_end hX hY (by rw [show (i + 1).toNat = 0 by omega] at hd; exact hd)))), (by rfl)⟩

theorem n_minus_spec (xs : List Int) (x : Int) (ys : List Int) (y : Int) (hX : Dg xs x) (hlx : xs.length = 32) (hY : Dg ys y) (hly : ys.length = 32) (hle : y ≤ x) :
    CallsS Try.prog 101 [ag .i64 xs, ag .i64 ys] [] (fun r D => ∃ (zs : List Int), r = ag .i64 zs ∧ D = [] ∧ (Dg zs (x - y)) ∧ (zs.length = 32)) := by
  refine CallsS.enter hU Try.f101 _ [.cell 4 92] 29 Try.func101 rfl (by decide) rfl rfl (by kernel_rfl) fun w0 W => ?_
  refine RunC.sr ?_
  refine RunR.st (some 2) (.box 92 (.tmp 0)) (Step.box (ag .i64 xs) (by kernel_rfl) (by kernel_rfl) (fun b1 => ?_))
  refine RunR.st (some 3) (.box 92 (.tmp 1)) (Step.box (ag .i64 ys) (by kernel_rfl) (by kernel_rfl) (fun b2 => ?_))
  refine RunR.st (some 4) (.alloc 92) (Step.al hU 32 256 z32 (fun b3 => ?_))
  have hl4 : (List.replicate 32 (0 : Int)).length = 32 := List.length_replicate
  refine RunR.nx ?_
  refine RunR.sl hU [] 1 1 [2, 3, 4, 5] [(2, pt b1), (3, pt b2), (4, pt b3), (5, .int .i64 0)] 1 ?_
  refine RunR.nn ?_
  refine RunC.seq ?_
  refine RunC.sr ?_
  refine RunR.sl hU [] 1 1 [2, 3, 4, 5, 6] [(2, pt b1), (3, pt b2), (4, pt b3), (5, .int .i64 0), (6, .int .i64 0)] 1 ?_
  refine RunR.nn ?_
  refine RunC.block ?_
  refine RunC.env [2, 3, 4, 5, 6] [(2, pt b1), (3, pt b2), (4, pt b3), (5, .int .i64 0), (6, .int .i64 0)] (by kernel_rfl) ?_
  refine RunC.only [2, 0, 0] [blk b1 92 (nums .i64 xs), blk b3 92 (nums .i64 (List.replicate 32 (0 : Int))), blk b2 92 (nums .i64 ys)] (by kernel_rfl) ?_
  refine RunC.loop (σ := Nat) (fun n_ t_ D_ => ∃ (i : Int) (os : List Int) (c : Int), (0 ≤ i) ∧ (i ≤ 32) ∧ (os = mapP (sd xs ys) xs i.toNat) ∧ (c = bo xs ys i.toNat) ∧ (0 ≤ c ∧ c ≤ 1) ∧ (In .u8 os) ∧ (In .u8 ys) ∧ (os.length = 32) ∧ n_ = ((32 - i).toNat : Nat) ∧ t_ = [(2, pt b1), (3, pt b2), (4, pt b3), (5, .int .i64 c), (6, .int .i64 i)] ∧ D_ = [blk b1 92 (nums .i64 os), blk b3 92 (nums .i64 (List.replicate 32 (0 : Int))), blk b2 92 (nums .i64 ys)]) id _ ⟨0, xs, 0, (by omega), (by omega), (by (rw [show (0 : Int).toNat = 0 from rfl, mapP_zero])), (by rfl), (by omega), (by exact hX.inn), (by exact hY.inn), (by assumption), rfl, rfl, rfl⟩ ?_
  rintro n_ _ _ ⟨i, os, c, hi, hi2, ho, hc, hcb, hob, hoy, hol, rfl, rfl, rfl⟩
  refine RunC.seq ?_
  refine RunC.sr ?_
  refine RunR.sl hU [] 2 2 [2, 3, 4, 5, 6, 9] [(2, pt b1), (3, pt b2), (4, pt b3), (5, .int .i64 c), (6, .int .i64 i), (9, .bool (decide (i < 32)))] 2 ?_
  refine RunR.nn ?_
  refine RunC.condp (i < 32) (by kernel_rfl) (fun h5 => ?_) (fun h5 => ?_)
  · skip
    refine RunC.ks ?_
    refine RunC.seq ?_
    refine RunC.block ?_
    refine RunC.seq ?_
    refine RunC.regionU hU 10 [blk b1 92 (nums .i64 os), blk b2 92 (nums .i64 ys)] [0, 2] [9] (bm 10 0) (by kernel_rfl) (by kernel_rfl) (by kernel_rfl) ?_
    refine RunU.sl hU 0 (bm 10 1) 12 (.int .i64 i) ?_
    refine RunU.sil hU false 1 (bm 10 3) 13 (.pointer (some ⟨b1, 0 + (i).toNat * 1, none⟩)) (0 ≤ i ∧ i < ((32 : Nat) : Int)) (by kernel_rfl) (by omega) (by kernel_rfl) (by kernel_rfl) (fun _ _ _ h => h) ?_
    refine RunU.rd 2 (bm 10 7) 14 (.load 3 (.tmp 13)) (.int .i64 (os.getD ((i).toNat) 0)) [0, 2] (Reads.load_blknum hU 0 b1 (0 + (i).toNat * 1) 92 ((i).toNat) .i64 os rfl (by kernel_rfl) (by kernel_rfl) (by omega) (by omega)) ?_
    have hb6 : 0 ≤ os.getD ((i).toNat) 0 ∧ os.getD ((i).toNat) 0 < 256 := hob.at_ _
    refine RunU.sl hU 3 (bm 10 15) 15 (.int .i64 i) ?_
    refine RunU.sil hU false 4 (bm 10 31) 16 (.pointer (some ⟨b2, 0 + (i).toNat * 1, none⟩)) (0 ≤ i ∧ i < ((32 : Nat) : Int)) (by kernel_rfl) (by omega) (by kernel_rfl) (by kernel_rfl) (fun _ _ _ h => h) ?_
    refine RunU.rd 5 (bm 10 63) 17 (.load 3 (.tmp 16)) (.int .i64 (ys.getD ((i).toNat) 0)) [0, 2] (Reads.load_blknum hU 1 b2 (0 + (i).toNat * 1) 92 ((i).toNat) .i64 ys rfl (by kernel_rfl) (by kernel_rfl) (by omega) (by omega)) ?_
    have hb7 : 0 ≤ ys.getD ((i).toNat) 0 ∧ ys.getD ((i).toNat) 0 < 256 := hoy.at_ _
    refine RunU.sil hU true 6 (bm 10 127) 18 (.int .i64 ((os.getD ((i).toNat) 0) - (ys.getD ((i).toNat) 0))) (-9223372036854775808 ≤ ((os.getD ((i).toNat) 0) - (ys.getD ((i).toNat) 0)) ∧ ((os.getD ((i).toNat) 0) - (ys.getD ((i).toNat) 0)) < 9223372036854775808) (by kernel_rfl) (by omega) (by kernel_rfl) (by kernel_rfl) (fun _ _ _ h => h) ?_
    refine RunU.sl hU 7 (bm 10 255) 19 (.int .i64 c) ?_
    refine RunU.sil hU true 8 (bm 10 511) 20 (.int .i64 (((os.getD ((i).toNat) 0) - (ys.getD ((i).toNat) 0)) - c)) (-9223372036854775808 ≤ (((os.getD ((i).toNat) 0) - (ys.getD ((i).toNat) 0)) - c) ∧ (((os.getD ((i).toNat) 0) - (ys.getD ((i).toNat) 0)) - c) < 9223372036854775808) (by kernel_rfl) (by omega) (by kernel_rfl) (by kernel_rfl) (fun _ _ _ h => h) ?_
    refine RunU.sl hU 9 (bm 10 1023) 7 (.int .i64 (((os.getD ((i).toNat) 0) - (ys.getD ((i).toNat) 0)) - c)) ?_
    refine RunU.ev [2, 3, 4, 5, 6, 7] [(2, pt b1), (3, pt b2), (4, pt b3), (5, .int .i64 c), (6, .int .i64 i), (7, .int .i64 (((os.getD ((i).toNat) 0) - (ys.getD ((i).toNat) 0)) - c))] ?_
    refine RunU.dn ?_
    refine kseq_n ?_
    refine RunC.sr ?_
    refine RunR.sl hU [] 1 1 [2, 3, 4, 5, 6, 7] [(2, pt b1), (3, pt b2), (4, pt b3), (5, .int .i64 0), (6, .int .i64 i), (7, .int .i64 (((os.getD ((i).toNat) 0) - (ys.getD ((i).toNat) 0)) - c))] 1 ?_
    refine RunR.nn ?_
    refine RunC.seq ?_
    refine RunC.sr ?_
    refine RunR.sl hU [] 2 2 [2, 3, 4, 5, 6, 7, 22] [(2, pt b1), (3, pt b2), (4, pt b3), (5, .int .i64 0), (6, .int .i64 i), (7, .int .i64 (((os.getD ((i).toNat) 0) - (ys.getD ((i).toNat) 0)) - c)), (22, .bool (decide ((((os.getD ((i).toNat) 0) - (ys.getD ((i).toNat) 0)) - c) < 0)))] 2 ?_
    refine RunR.nn ?_
    refine RunC.condp ((((os.getD ((i).toNat) 0) - (ys.getD ((i).toNat) 0)) - c) < 0) (by kernel_rfl) (fun h8 => ?_) (fun h8 => ?_)
    · skip
      refine RunC.sr ?_
      refine RunR.sil hU [1] 3 3 [2, 3, 4, 5, 6, 7] [(2, pt b1), (3, pt b2), (4, pt b3), (5, .int .i64 0), (6, .int .i64 i), (7, .int .i64 ((((os.getD ((i).toNat) 0) - (ys.getD ((i).toNat) 0)) - c) + 256))] ((True) ∧ (-9223372036854775808 ≤ ((((os.getD ((i).toNat) 0) - (ys.getD ((i).toNat) 0)) - c) + 256) ∧ ((((os.getD ((i).toNat) 0) - (ys.getD ((i).toNat) 0)) - c) + 256) < 9223372036854775808) ∧ (True) ∧ True) rfl (by kernel_rfl) ⟨trivial, (by omega), trivial, trivial⟩ ?_
      refine RunR.nn ?_
      refine RunC.region ?_
      refine RunR.sl hU [] 1 1 [2, 3, 4, 5, 6, 7] [(2, pt b1), (3, pt b2), (4, pt b3), (5, .int .i64 1), (6, .int .i64 i), (7, .int .i64 ((((os.getD ((i).toNat) 0) - (ys.getD ((i).toNat) 0)) - c) + 256))] 1 ?_
      refine RunR.nn ?_
      refine RunC.region ?_
      refine RunR.sil hU [] 3 3 [2, 3, 4, 5, 6, 26, 27] [(2, pt b1), (3, pt b2), (4, pt b3), (5, .int .i64 1), (6, .int .i64 i), (26, .int .i64 ((((os.getD ((i).toNat) 0) - (ys.getD ((i).toNat) 0)) - c) + 256)), (27, .pointer (some ⟨b1, 0 + (i).toNat * 1, none⟩))] ((True) ∧ (True) ∧ (0 ≤ i ∧ i < ((32 : Nat) : Int)) ∧ True) rfl (by kernel_rfl) ⟨trivial, trivial, (by omega), trivial⟩ ?_
      refine RunR.st none (.store 3 (.tmp 27) (.tmp 26)) (Step.store_blknum hU 0 b1 (0 + (i).toNat * 1) 92 ((i).toNat) .i64 os ((((os.getD ((i).toNat) 0) - (ys.getD ((i).toNat) 0)) - c) + 256) (by kernel_rfl) (by kernel_rfl) (by kernel_rfl) rfl (by omega) (by omega) ?_)
      have hl9 : (os.set ((i).toNat) ((((os.getD ((i).toNat) 0) - (ys.getD ((i).toNat) 0)) - c) + 256)).length = os.length := List.length_set
      refine RunR.dn ?_
      refine kblock_n ?_
      refine kseq_n ?_
      refine RunC.region ?_
      refine RunR.sil hU [1] 3 3 [2, 3, 4, 5, 6] [(2, pt b1), (3, pt b2), (4, pt b3), (5, .int .i64 1), (6, .int .i64 (i + 1))] ((True) ∧ (-9223372036854775808 ≤ (i + 1) ∧ (i + 1) < 9223372036854775808) ∧ (True) ∧ True) rfl (by kernel_rfl) ⟨trivial, (by omega), trivial, trivial⟩ ?_
      refine RunR.dn ?_
      refine kloop_n _ [2, 3, 4, 5, 6] [0, 0, 0] [(2, pt b1), (3, pt b2), (4, pt b3), (5, .int .i64 1), (6, .int .i64 (i + 1))] [blk b1 92 (nums .i64 (os.set ((i).toNat) ((((os.getD ((i).toNat) 0) - (ys.getD ((i).toNat) 0)) - c) + 256))), blk b3 92 (nums .i64 (List.replicate 32 (0 : Int))), blk b2 92 (nums .i64 ys)] (by kernel_rfl) (by kernel_rfl) ?_ ⟨(i + 1), (os.set ((i).toNat) ((((os.getD ((i).toNat) 0) - (ys.getD ((i).toNat) 0)) - c) + 256)), 1, (by omega), (by assumption), (by exact ((minus_step hX hi (by omega) ho hc).1 (by omega)).1), (by exact ((minus_step hX hi (by omega) ho hc).1 (by omega)).2), (by omega), (by exact In.set hob _ (by simp only [fits]; omega)), hoy, (by omega), rfl, (by rfl), (by rfl)⟩
      show ((32 - (i + 1)).toNat : Nat) < ((32 - i).toNat : Nat)
      omega
    · skip
      refine RunC.ks ?_
      refine RunC.region ?_
      refine RunR.sil hU [] 3 3 [2, 3, 4, 5, 6, 26, 27] [(2, pt b1), (3, pt b2), (4, pt b3), (5, .int .i64 0), (6, .int .i64 i), (26, .int .i64 (((os.getD ((i).toNat) 0) - (ys.getD ((i).toNat) 0)) - c)), (27, .pointer (some ⟨b1, 0 + (i).toNat * 1, none⟩))] ((True) ∧ (True) ∧ (0 ≤ i ∧ i < ((32 : Nat) : Int)) ∧ True) rfl (by kernel_rfl) ⟨trivial, trivial, (by omega), trivial⟩ ?_
      refine RunR.st none (.store 3 (.tmp 27) (.tmp 26)) (Step.store_blknum hU 0 b1 (0 + (i).toNat * 1) 92 ((i).toNat) .i64 os (((os.getD ((i).toNat) 0) - (ys.getD ((i).toNat) 0)) - c) (by kernel_rfl) (by kernel_rfl) (by kernel_rfl) rfl (by omega) (by omega) ?_)
      have hl10 : (os.set ((i).toNat) (((os.getD ((i).toNat) 0) - (ys.getD ((i).toNat) 0)) - c)).length = os.length := List.length_set
      refine RunR.dn ?_
      refine kblock_n ?_
      refine kseq_n ?_
      refine RunC.region ?_
      refine RunR.sil hU [1] 3 3 [2, 3, 4, 5, 6] [(2, pt b1), (3, pt b2), (4, pt b3), (5, .int .i64 0), (6, .int .i64 (i + 1))] ((True) ∧ (-9223372036854775808 ≤ (i + 1) ∧ (i + 1) < 9223372036854775808) ∧ (True) ∧ True) rfl (by kernel_rfl) ⟨trivial, (by omega), trivial, trivial⟩ ?_
      refine RunR.dn ?_
      refine kloop_n _ [2, 3, 4, 5, 6] [0, 0, 0] [(2, pt b1), (3, pt b2), (4, pt b3), (5, .int .i64 0), (6, .int .i64 (i + 1))] [blk b1 92 (nums .i64 (os.set ((i).toNat) (((os.getD ((i).toNat) 0) - (ys.getD ((i).toNat) 0)) - c))), blk b3 92 (nums .i64 (List.replicate 32 (0 : Int))), blk b2 92 (nums .i64 ys)] (by kernel_rfl) (by kernel_rfl) ?_ ⟨(i + 1), (os.set ((i).toNat) (((os.getD ((i).toNat) 0) - (ys.getD ((i).toNat) 0)) - c)), 0, (by omega), (by assumption), (by exact ((minus_step hX hi (by omega) ho hc).2 (by omega)).1), (by exact ((minus_step hX hi (by omega) ho hc).2 (by omega)).2), (by omega), (by exact In.set hob _ (by simp only [fits]; omega)), hoy, (by omega), rfl, (by rfl), (by rfl)⟩
      show ((32 - (i + 1)).toNat : Nat) < ((32 - i).toNat : Nat)
      omega
  · skip
    refine RunC.exit ?_
    refine kseq_e ?_
    refine kloop_e ?_
    refine kblock_e ?_
    refine kseq_n ?_
    refine RunC.sr ?_
    refine RunR.st (some 28) (.load 92 (.tmp 2)) (Step.load_arr hU 0 b1 92 32 .i64 os (by kernel_rfl) (by kernel_rfl) (by kernel_rfl) (by kernel_rfl) (by omega) (by kernel_rfl) ?_)
    refine RunR.st none (.store 92 (.tmp 4) (.tmp 28)) (Step.store_arr hU 1 b3 92 32 .i64 (List.replicate 32 (0 : Int)) os (by kernel_rfl) (by kernel_rfl) (by kernel_rfl) (by kernel_rfl) (by rfl) (by omega) ?_)
    refine RunR.nn ?_
    refine RunC.ret ?_
    refine kret_r [ag .i64 os] [] [] ⟨⟨0, b3, 0, 92, nums .i64 os, rfl, rfl, (loadv_arr (U := U) (n := 32) (by kernel_rfl) (by kernel_rfl) (by omega))⟩, trivial⟩ (by kernel_rfl) rfl ⟨os, rfl, rfl, (by exact minus_end hX hY hle (by rw [ho, show i = 32 by omega] <;> rfl)), (by assumption)⟩

theorem n_Small_spec (n : Int) (hn : fits .u32 n) :
    CallsS Try.prog 62 [.int .u32 n] [] (fun r D => ∃ (zs : List Int), r = ag .i64 zs ∧ D = [] ∧ (Dg zs (n)) ∧ (zs.length = 32)) := by
  refine CallsS.enter hU Try.f62 _ [.cell 2 92] 19 Try.func62 rfl (by decide) rfl rfl (by kernel_rfl) fun w0 W => ?_
  have hn2 := hn; simp only [fits] at hn2
  refine RunC.sr ?_
  refine RunR.st (some 2) (.alloc 92) (Step.al hU 32 256 z32 (fun b1 => ?_))
  have hl2 : (List.replicate 32 (0 : Int)).length = 32 := List.length_replicate
  refine RunR.nx ?_
  refine RunR.st (some 3) (.alloc 92) (Step.al hU 32 256 z32 (fun b3 => ?_))
  have hl4 : (List.replicate 32 (0 : Int)).length = 32 := List.length_replicate
  refine RunR.nn ?_
  refine RunC.seq ?_
  refine RunC.sr ?_
  refine RunR.sl hU [] 1 1 [0, 2, 3, 4] [(0, .int .u32 n), (2, pt b1), (3, pt b3), (4, .int .i64 0)] 1 ?_
  refine RunR.nn ?_
  refine RunC.block ?_
  refine RunC.env [0, 2, 3, 4] [(0, .int .u32 n), (2, pt b1), (3, pt b3), (4, .int .i64 0)] (by kernel_rfl) ?_
  refine RunC.only [0, 0] [blk b3 92 (nums .i64 (List.replicate 32 (0 : Int))), blk b1 92 (nums .i64 (List.replicate 32 (0 : Int)))] (by kernel_rfl) ?_
  refine RunC.loop (σ := Nat) (fun n_ t_ D_ => ∃ (i : Int) (os : List Int), (0 ≤ i) ∧ (i ≤ 4) ∧ (os = mapP (fun i => n / 256 ^ i % 256) (List.replicate 32 0) i.toNat) ∧ (os.length = 32) ∧ n_ = ((4 - i).toNat : Nat) ∧ t_ = [(0, .int .u32 n), (2, pt b1), (3, pt b3), (4, .int .i64 i)] ∧ D_ = [blk b3 92 (nums .i64 os), blk b1 92 (nums .i64 (List.replicate 32 (0 : Int)))]) id _ ⟨0, (List.replicate 32 (0 : Int)), (by omega), (by omega), (by rfl), (by rfl), rfl, rfl, rfl⟩ ?_
  rintro n_ _ _ ⟨i, os, hi, hi2, ho, hol, rfl, rfl, rfl⟩
  refine RunC.seq ?_
  refine RunC.sr ?_
  refine RunR.sl hU [] 2 2 [0, 2, 3, 4, 6] [(0, .int .u32 n), (2, pt b1), (3, pt b3), (4, .int .i64 i), (6, .bool (decide (i < 4)))] 2 ?_
  refine RunR.nn ?_
  refine RunC.condp (i < 4) (by kernel_rfl) (fun h5 => ?_) (fun h5 => ?_)
  · skip
    refine RunC.ks ?_
    refine RunC.seq ?_
    refine RunC.block ?_
    refine RunC.region ?_
    have hm6 : 0 ≤ n → 0 ≤ n / 2 ^ (min (8 * i).toNat 32) ∧ n / 2 ^ (min (8 * i).toNat 32) ≤ n := fun h => ⟨Int.ediv_nonneg h (Int.le_of_lt (Int.pow_pos (by decide))), Int.ediv_le_self _ h⟩
    refine RunR.sil hU [3, 4, 5, 6, 7] 9 9 [0, 2, 3, 4, 16, 17] [(0, .int .u32 n), (2, pt b1), (3, pt b3), (4, .int .i64 i), (16, .int .i64 ((n / 2 ^ (min (8 * i).toNat 32)) % (256 : Int))), (17, .pointer (some ⟨b3, 0 + (i).toNat * 1, none⟩))] ((True) ∧ (True) ∧ (True) ∧ (-9223372036854775808 ≤ (8 * i) ∧ (8 * i) < 9223372036854775808) ∧ (0 ≤ (8 * i) ∧ (8 * i) < 18446744073709551616) ∧ (0 ≤ (8 * i)) ∧ (-9223372036854775808 ≤ (n / 2 ^ (min (8 * i).toNat 32)) ∧ (n / 2 ^ (min (8 * i).toNat 32)) < 9223372036854775808) ∧ (0 ≤ (n / 2 ^ (min (8 * i).toNat 32)) ∧ 0 < (256 : Int)) ∧ (0 ≤ i ∧ i < ((32 : Nat) : Int)) ∧ True) rfl (by kernel_rfl) ⟨trivial, trivial, trivial, (by omega), (by omega), (by omega), (by omega), (by omega), (by omega), trivial⟩ ?_
    refine RunR.st none (.store 3 (.tmp 17) (.tmp 16)) (Step.store_blknum hU 0 b3 (0 + (i).toNat * 1) 92 ((i).toNat) .i64 os ((n / 2 ^ (min (8 * i).toNat 32)) % (256 : Int)) (by kernel_rfl) (by kernel_rfl) (by kernel_rfl) rfl (by omega) (by omega) ?_)
    have hl7 : (os.set ((i).toNat) ((n / 2 ^ (min (8 * i).toNat 32)) % (256 : Int))).length = os.length := List.length_set
    refine RunR.dn ?_
    refine kblock_n ?_
    refine kseq_n ?_
    refine RunC.region ?_
    refine RunR.sil hU [1] 3 3 [0, 2, 3, 4] [(0, .int .u32 n), (2, pt b1), (3, pt b3), (4, .int .i64 (i + 1))] ((True) ∧ (-9223372036854775808 ≤ (i + 1) ∧ (i + 1) < 9223372036854775808) ∧ (True) ∧ True) rfl (by kernel_rfl) ⟨trivial, (by omega), trivial, trivial⟩ ?_
    refine RunR.dn ?_
    refine kloop_n _ [0, 2, 3, 4] [0, 0] [(0, .int .u32 n), (2, pt b1), (3, pt b3), (4, .int .i64 (i + 1))] [blk b3 92 (nums .i64 (os.set ((i).toNat) ((n / 2 ^ (min (8 * i).toNat 32)) % (256 : Int)))), blk b1 92 (nums .i64 (List.replicate 32 (0 : Int)))] (by kernel_rfl) (by kernel_rfl) ?_ ⟨(i + 1), (os.set ((i).toNat) ((n / 2 ^ (min (8 * i).toNat 32)) % (256 : Int))), (by omega), (by assumption), (by rw [ho]; exact small_step (by omega) (by omega)), (by rw [List.length_set]; exact hol), rfl, (by rfl), (by rfl)⟩
    show ((4 - (i + 1)).toNat : Nat) < ((4 - i).toNat : Nat)
    omega
  · skip
    refine RunC.exit ?_
    refine kseq_e ?_
    refine kloop_e ?_
    refine kblock_e ?_
    refine kseq_n ?_
    refine RunC.sr ?_
    refine RunR.st (some 18) (.load 92 (.tmp 3)) (Step.load_arr hU 0 b3 92 32 .i64 os (by kernel_rfl) (by kernel_rfl) (by kernel_rfl) (by kernel_rfl) (by omega) (by kernel_rfl) ?_)
    refine RunR.st none (.store 92 (.tmp 2) (.tmp 18)) (Step.store_arr hU 1 b1 92 32 .i64 (List.replicate 32 (0 : Int)) os (by kernel_rfl) (by kernel_rfl) (by kernel_rfl) (by kernel_rfl) (by rfl) (by omega) ?_)
    refine RunR.nn ?_
    refine RunC.ret ?_
    refine kret_r [ag .i64 os] [] [] ⟨⟨0, b1, 0, 92, nums .i64 os, rfl, rfl, (loadv_arr (U := U) (n := 32) (by kernel_rfl) (by kernel_rfl) (by omega))⟩, trivial⟩ (by kernel_rfl) rfl ⟨os, rfl, rfl, (by rw [ho, show i = 4 by omega]; exact small_end hn2.1 hn2.2), (by exact hol)⟩
end Go.Proofs.Ytaaplakahkgclaa.Y2
