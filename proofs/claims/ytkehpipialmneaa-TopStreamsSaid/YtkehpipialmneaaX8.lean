/- What these functions compute: a contract for each, walked through its code. -/
import Derived.Test.YtkehpipialmneaaSLzn
import Derived.Test.YtkehpipialmneaaBPure
import Derived.Test.YtkehpipialmneaaProg
import Derived.Test.YtkehpipialmneaaX1
import Derived.Test.YtkehpipialmneaaX2
import Derived.Test.YtkehpipialmneaaX3
import Derived.Test.YtkehpipialmneaaX4
import Derived.Test.YtkehpipialmneaaX5
import Derived.Test.YtkehpipialmneaaX6
import Derived.Test.YtkehpipialmneaaX7
namespace Go.Proofs.Ytkehpipialmneaa.X8
open Go Go.Proofs.Ytkehpipialmneaa.SL Go.Proofs.Ytkehpipialmneaa.SL.W Go.Proofs.Ytkehpipialmneaa.SL.C Go.Proofs.Ytkehpipialmneaa.SL.H Go.Proofs.Ytkehpipialmneaa.SL.M Go.Proofs.Ytkehpipialmneaa.SL.Y Go.Proofs.Ytkehpipialmneaa.SL.A Go.Proofs.Ytkehpipialmneaa.SL.B Go.Proofs.Ytkehpipialmneaa.X1 Go.Proofs.Ytkehpipialmneaa.X2 Go.Proofs.Ytkehpipialmneaa.X3 Go.Proofs.Ytkehpipialmneaa.X4 Go.Proofs.Ytkehpipialmneaa.X5 Go.Proofs.Ytkehpipialmneaa.X6 Go.Proofs.Ytkehpipialmneaa.X7
set_option linter.unusedVariables false
set_option linter.unusedSimpArgs false
set_option maxRecDepth 100000
set_option maxHeartbeats 40000000
def U : Tab where
  und := [(3, .int .i64), (5, .int .u8), (24, .slice 5), (73, .int .u64), (74, .array 5 73), (113, .array 5 73)]
  fld := []
  sz := [(3, 1), (5, 1), (24, 1), (73, 1), (74, 5), (113, 5)]
  ti := [(3, (1, 8, .int .i64 0)), (5, (1, 1, .int .u8 0)), (24, (1, 24, .slice none 0 0)), (73, (1, 8, .int .u64 0)), (74, (5, 40, z5)), (113, (5, 40, z5))]
  bld := []

theorem hU : U.OK Try.prog where
  und := by
    intro p hp
    simp only [U, List.mem_cons, List.not_mem_nil, or_false] at hp
    rcases hp with rfl | rfl | rfl | rfl | rfl | rfl
    · exact Try.underlying3
    · exact Try.underlying5
    · exact Try.underlying24
    · exact Try.underlying73
    · exact Try.underlying74
    · exact Try.underlying113
  fld := by
    intro p hp; cases hp
  sz := by
    intro p hp
    simp only [U, List.mem_cons, List.not_mem_nil, or_false] at hp
    rcases hp with rfl | rfl | rfl | rfl | rfl | rfl
    · exact ⟨Try.prog.types[3]!, by kernel_rfl, by kernel_rfl⟩
    · exact ⟨Try.prog.types[5]!, by kernel_rfl, by kernel_rfl⟩
    · exact ⟨Try.prog.types[24]!, by kernel_rfl, by kernel_rfl⟩
    · exact ⟨Try.prog.types[73]!, by kernel_rfl, by kernel_rfl⟩
    · exact ⟨Try.prog.types[74]!, by kernel_rfl, by kernel_rfl⟩
    · exact ⟨Try.prog.types[113]!, by kernel_rfl, by kernel_rfl⟩
  ti := by
    intro p hp
    simp only [U, List.mem_cons, List.not_mem_nil, or_false] at hp
    rcases hp with rfl | rfl | rfl | rfl | rfl | rfl
    · exact ⟨Try.prog.types[3]!, by kernel_rfl, by kernel_rfl, by kernel_rfl, by kernel_rfl⟩
    · exact ⟨Try.prog.types[5]!, by kernel_rfl, by kernel_rfl, by kernel_rfl, by kernel_rfl⟩
    · exact ⟨Try.prog.types[24]!, by kernel_rfl, by kernel_rfl, by kernel_rfl, by kernel_rfl⟩
    · exact ⟨Try.prog.types[73]!, by kernel_rfl, by kernel_rfl, by kernel_rfl, by kernel_rfl⟩
    · exact ⟨Try.prog.types[74]!, by kernel_rfl, by kernel_rfl, by kernel_rfl, by kernel_rfl⟩
    · exact ⟨Try.prog.types[113]!, by kernel_rfl, by kernel_rfl, by kernel_rfl, by kernel_rfl⟩
  bld := by
    intro p hp; cases hp
  mixed := by kernel_rfl

theorem y_times_spec (b : Nat) (xs : List Int) (v : Int) (ys : List Int) (w : Int) (hX : L5 134225920 xs) (hv : vP xs % Q = v) (hY : L5 67108864 ys) (hw : vP ys % Q = w) (hlx : xs.length = 5) (hly : ys.length = 5) :
    CallsS Try.prog 67 [pt b, ag .u64 ys] [blk b 113 (nums .u64 xs)] (fun r D => ∃ (zs : List Int), r = .tuple #[] ∧ D = [blk b 113 (nums .u64 zs)] ∧ (PE zs (v * w % Q)) ∧ (zs.length = 5)) := by
  refine CallsS.enter hU Try.f67 _ [] 45 Try.func67 rfl (by decide) rfl rfl (by kernel_rfl) fun w0 W => ?_
  refine RunC.sr ?_
  refine RunR.st (some 3) (.box 113 (.tmp 1)) (Step.box (ag .u64 ys) (by kernel_rfl) (by kernel_rfl) (fun b1 => ?_))
  refine RunR.nx ?_
  refine RunR.st (some 4) (.alloc 113) (Step.al hU 5 40 z5 (fun b2 => ?_))
  have hl3 : (List.replicate 5 (0 : Int)).length = 5 := List.length_replicate
  refine RunR.nn ?_
  refine RunC.seq ?_
  refine RunC.sr ?_
  refine RunR.sl hU [] 1 1 [0, 3, 4, 8] [(0, pt b), (3, pt b1), (4, pt b2), (8, .int .i64 0)] 1 ?_
  refine RunR.nn ?_
  refine RunC.block ?_
  refine RunC.env [0, 3, 4, 8] [(0, pt b), (3, pt b1), (4, pt b2), (8, .int .i64 0)] (by kernel_rfl) ?_
  refine RunC.only [0, 0, 0] [blk b2 113 (nums .u64 (List.replicate 5 (0 : Int))), blk b1 113 (nums .u64 ys), blk b 113 (nums .u64 xs)] (by kernel_rfl) ?_
  refine RunC.loop (σ := Nat) (fun n_ t_ D_ => ∃ (i : Int) (os : List Int), (0 ≤ i) ∧ (i ≤ 5) ∧ (os = colsP xs ys (5 * i.toNat)) ∧ (os.length = 5) ∧ n_ = ((5 - i).toNat : Nat) ∧ t_ = [(0, pt b), (3, pt b1), (4, pt b2), (8, .int .i64 i)] ∧ D_ = [blk b2 113 (nums .u64 os), blk b1 113 (nums .u64 ys), blk b 113 (nums .u64 xs)]) id _ ⟨0, (List.replicate 5 (0 : Int)), (by first | assumption | omega | (simp only [List.length_append, List.length_cons, List.length_nil, List.length_set, List.length_replicate, List.length_take, List.length_drop]; omega) | (simp only [fits] at *; omega) | (simp only [List.length_append, List.length_cons, List.length_nil, List.length_set, List.length_replicate, List.length_take, List.length_drop] at *; omega) | (simp; done) | decide), (by first | assumption | omega | (simp only [List.length_append, List.length_cons, List.length_nil, List.length_set, List.length_replicate, List.length_take, List.length_drop]; omega) | (simp only [fits] at *; omega) | (simp only [List.length_append, List.length_cons, List.length_nil, List.length_set, List.length_replicate, List.length_take, List.length_drop] at *; omega) | (simp; done) | decide), (by rfl), (by rfl), rfl, rfl, rfl⟩ ?_
  rintro n_ _ _ ⟨i, os, hi, hi5, ho, hol, rfl, rfl, rfl⟩
  refine RunC.sr ?_
  refine RunR.sl hU [] 1 1 [0, 3, 4, 8, 9] [(0, pt b), (3, pt b1), (4, pt b2), (8, .int .i64 i), (9, .bool (decide (i < 5)))] 1 ?_
  refine RunR.nn ?_
  refine RunC.seq ?_
  refine RunC.condp (i < 5) (by kernel_rfl) (fun h4 => ?_) (fun h4 => ?_)
  · skip
    refine RunC.ks ?_
    refine RunC.seq ?_
    refine RunC.block ?_
    refine RunC.sr ?_
    refine RunR.sl hU [] 2 2 [0, 3, 4, 5, 8] [(0, pt b), (3, pt b1), (4, pt b2), (5, .int .i64 i), (8, .int .i64 i)] 2 ?_
    refine RunR.nx ?_
    refine RunR.sl hU [] 1 1 [0, 3, 4, 5, 8, 11] [(0, pt b), (3, pt b1), (4, pt b2), (5, .int .i64 i), (8, .int .i64 i), (11, .int .i64 0)] 1 ?_
    refine RunR.nn ?_
    refine RunC.block ?_
    refine RunC.env [0, 3, 4, 5, 8, 11] [(0, pt b), (3, pt b1), (4, pt b2), (5, .int .i64 i), (8, .int .i64 i), (11, .int .i64 0)] (by kernel_rfl) ?_
    refine RunC.only [0, 0, 0] [blk b2 113 (nums .u64 os), blk b1 113 (nums .u64 ys), blk b 113 (nums .u64 xs)] (by kernel_rfl) ?_
    refine RunC.loop (σ := Nat) (fun n_ t_ D_ => ∃ (k : Int) (us : List Int), (0 ≤ k) ∧ (k ≤ 5) ∧ (us = colsP xs ys (5 * i.toNat + k.toNat)) ∧ (us.length = 5) ∧ n_ = ((5 - k).toNat : Nat) ∧ t_ = [(0, pt b), (3, pt b1), (4, pt b2), (5, .int .i64 i), (8, .int .i64 i), (11, .int .i64 k)] ∧ D_ = [blk b2 113 (nums .u64 us), blk b1 113 (nums .u64 ys), blk b 113 (nums .u64 xs)]) id _ ⟨0, os, (by first | assumption | omega | (simp only [List.length_append, List.length_cons, List.length_nil, List.length_set, List.length_replicate, List.length_take, List.length_drop]; omega) | (simp only [fits] at *; omega) | (simp only [List.length_append, List.length_cons, List.length_nil, List.length_set, List.length_replicate, List.length_take, List.length_drop] at *; omega) | (simp; done) | decide), (by first | assumption | omega | (simp only [List.length_append, List.length_cons, List.length_nil, List.length_set, List.length_replicate, List.length_take, List.length_drop]; omega) | (simp only [fits] at *; omega) | (simp only [List.length_append, List.length_cons, List.length_nil, List.length_set, List.length_replicate, List.length_take, List.length_drop] at *; omega) | (simp; done) | decide), (by exact ho), (by exact hol), rfl, rfl, rfl⟩ ?_
    rintro n_ _ _ ⟨k, us, hk, hk5, hu, hul, rfl, rfl, rfl⟩
    refine RunC.sr ?_
    refine RunR.sl hU [] 1 1 [0, 3, 4, 5, 8, 11, 12] [(0, pt b), (3, pt b1), (4, pt b2), (5, .int .i64 i), (8, .int .i64 i), (11, .int .i64 k), (12, .bool (decide (k < 5)))] 1 ?_
    refine RunR.nn ?_
    refine RunC.seq ?_
    refine RunC.condp (k < 5) (by kernel_rfl) (fun h5 => ?_) (fun h5 => ?_)
    · skip
      refine RunC.ks ?_
      refine RunC.seq ?_
      refine RunC.block ?_
      refine RunC.sr ?_
      refine RunR.sl hU [] 2 2 [0, 3, 4, 5, 6, 8, 11] [(0, pt b), (3, pt b1), (4, pt b2), (5, .int .i64 i), (6, .int .i64 k), (8, .int .i64 i), (11, .int .i64 k)] 2 ?_
      refine RunR.nn ?_
      refine RunC.seq ?_
      refine RunC.regionU hU 10 [blk b 113 (nums .u64 xs), blk b1 113 (nums .u64 ys)] [2, 1] [9] (bm 10 0) (by kernel_rfl) (by kernel_rfl) (by kernel_rfl) ?_
      refine RunU.sl hU 0 (bm 10 1) 14 (pt b) ?_
      refine RunU.sl hU 1 (bm 10 3) 15 (.int .i64 i) ?_
      refine RunU.sl hU 2 (bm 10 7) 16 (pt b) ?_
      refine RunU.sil hU false 3 (bm 10 15) 17 (.pointer (some ⟨b, 0 + (i).toNat * 1, none⟩)) (0 ≤ i ∧ i < ((5 : Nat) : Int)) (by kernel_rfl) (by omega) (by kernel_rfl) (by kernel_rfl) (fun _ _ _ h => h) ?_
      refine RunU.rd 4 (bm 10 31) 18 (.load 73 (.tmp 17)) (.int .u64 (xs.getD ((i).toNat) 0)) [2, 1] (Reads.load_blknum hU 0 b (0 + (i).toNat * 1) 113 ((i).toNat) .u64 xs rfl (by kernel_rfl) (by kernel_rfl) (by omega) (by first | omega | (simp only [List.length_cons, List.length_nil]; omega))) ?_
      refine RunU.sl hU 5 (bm 10 63) 19 (.int .i64 k) ?_
      refine RunU.sil hU false 6 (bm 10 127) 20 (.pointer (some ⟨b1, 0 + (k).toNat * 1, none⟩)) (0 ≤ k ∧ k < ((5 : Nat) : Int)) (by kernel_rfl) (by omega) (by kernel_rfl) (by kernel_rfl) (fun _ _ _ h => h) ?_
      refine RunU.rd 7 (bm 10 255) 21 (.load 73 (.tmp 20)) (.int .u64 (ys.getD ((k).toNat) 0)) [2, 1] (Reads.load_blknum hU 1 b1 (0 + (k).toNat * 1) 113 ((k).toNat) .u64 ys rfl (by kernel_rfl) (by kernel_rfl) (by omega) (by first | omega | (simp only [List.length_cons, List.length_nil]; omega))) ?_
      refine RunU.sl hU 8 (bm 10 511) 22 (.int .u64 (IntKind.wrap .u64 ((xs.getD ((i).toNat) 0) * (ys.getD ((k).toNat) 0)))) ?_
      refine RunU.sl hU 9 (bm 10 1023) 7 (.int .u64 (IntKind.wrap .u64 ((xs.getD ((i).toNat) 0) * (ys.getD ((k).toNat) 0)))) ?_
      refine RunU.ev [0, 3, 4, 5, 6, 7, 8, 11] [(0, pt b), (3, pt b1), (4, pt b2), (5, .int .i64 i), (6, .int .i64 k), (7, .int .u64 (IntKind.wrap .u64 ((xs.getD ((i).toNat) 0) * (ys.getD ((k).toNat) 0)))), (8, .int .i64 i), (11, .int .i64 k)] ?_
      refine RunU.dn ?_
      refine kseq_n ?_
      refine RunC.seq ?_
      refine RunC.sr ?_
      refine RunR.sil hU [2] 4 4 [0, 3, 4, 5, 6, 7, 8, 11, 26] [(0, pt b), (3, pt b1), (4, pt b2), (5, .int .i64 i), (6, .int .i64 k), (7, .int .u64 (IntKind.wrap .u64 ((xs.getD ((i).toNat) 0) * (ys.getD ((k).toNat) 0)))), (8, .int .i64 i), (11, .int .i64 k), (26, .bool (decide ((i + k) ≥ 5)))] ((True) ∧ (True) ∧ (-9223372036854775808 ≤ (i + k) ∧ (i + k) < 9223372036854775808) ∧ (True) ∧ True) rfl (by kernel_rfl) ⟨trivial, trivial, (by omega), trivial, trivial⟩ ?_
      refine RunR.nn ?_
      refine RunC.condp ((i + k) ≥ 5) (by kernel_rfl) (fun h6 => ?_) (fun h6 => ?_)
      · skip
        refine RunC.region ?_
        refine RunR.sl hU [] 3 3 [0, 3, 4, 5, 6, 7, 8, 11] [(0, pt b), (3, pt b1), (4, pt b2), (5, .int .i64 i), (6, .int .i64 k), (7, .int .u64 (IntKind.wrap .u64 ((IntKind.wrap .u64 ((xs.getD ((i).toNat) 0) * (ys.getD ((k).toNat) 0))) * 5))), (8, .int .i64 i), (11, .int .i64 k)] 3 ?_
        refine RunR.nn ?_
        refine RunC.region ?_
        refine RunR.sil hU [2, 3] 5 5 [0, 3, 4, 5, 7, 8, 11, 32, 33] [(0, pt b), (3, pt b1), (4, pt b2), (5, .int .i64 i), (7, .int .u64 (IntKind.wrap .u64 ((IntKind.wrap .u64 ((xs.getD ((i).toNat) 0) * (ys.getD ((k).toNat) 0))) * 5))), (8, .int .i64 i), (11, .int .i64 k), (32, .int .i64 ((i + k) % (5 : Int))), (33, .pointer (some ⟨b2, 0 + ((i + k) % (5 : Int)).toNat * 1, none⟩))] ((True) ∧ (True) ∧ (-9223372036854775808 ≤ (i + k) ∧ (i + k) < 9223372036854775808) ∧ (0 ≤ (i + k) ∧ 0 < (5 : Int)) ∧ (0 ≤ ((i + k) % (5 : Int)) ∧ ((i + k) % (5 : Int)) < ((5 : Nat) : Int)) ∧ True) rfl (by kernel_rfl) ⟨trivial, trivial, (by omega), (by omega), (by omega), trivial⟩ ?_
        refine RunR.st (some 34) (.load 73 (.tmp 33)) (Step.load_blknum hU 0 b2 (0 + ((i + k) % (5 : Int)).toNat * 1) 113 (((i + k) % (5 : Int)).toNat) .u64 us rfl (by kernel_rfl) (by kernel_rfl) (by kernel_rfl) (by omega) (by first | omega | (simp only [List.length_cons, List.length_nil]; omega)) ?_)
        refine RunR.sil hU [] 3 9 [0, 3, 4, 5, 8, 11, 36, 37] [(0, pt b), (3, pt b1), (4, pt b2), (5, .int .i64 i), (8, .int .i64 i), (11, .int .i64 k), (36, .int .u64 (IntKind.wrap .u64 ((us.getD (((i + k) % (5 : Int)).toNat) 0) + (IntKind.wrap .u64 ((IntKind.wrap .u64 ((xs.getD ((i).toNat) 0) * (ys.getD ((k).toNat) 0))) * 5))))), (37, .pointer (some ⟨b2, 0 + ((i + k) % (5 : Int)).toNat * 1, none⟩))] ((True) ∧ (True) ∧ (0 ≤ ((i + k) % (5 : Int)) ∧ ((i + k) % (5 : Int)) < ((5 : Nat) : Int)) ∧ True) rfl (by kernel_rfl) ⟨trivial, trivial, (by omega), trivial⟩ ?_
        refine RunR.st none (.store 73 (.tmp 37) (.tmp 36)) (Step.store_blknum hU 0 b2 (0 + ((i + k) % (5 : Int)).toNat * 1) 113 (((i + k) % (5 : Int)).toNat) .u64 us (IntKind.wrap .u64 ((us.getD (((i + k) % (5 : Int)).toNat) 0) + (IntKind.wrap .u64 ((IntKind.wrap .u64 ((xs.getD ((i).toNat) 0) * (ys.getD ((k).toNat) 0))) * 5)))) (by kernel_rfl) (by kernel_rfl) (by kernel_rfl) rfl (by omega) (by first | omega | (simp only [List.length_cons, List.length_nil]; omega)) ?_)
        have hl7 : (us.set (((i + k) % (5 : Int)).toNat) (IntKind.wrap .u64 ((us.getD (((i + k) % (5 : Int)).toNat) 0) + (IntKind.wrap .u64 ((IntKind.wrap .u64 ((xs.getD ((i).toNat) 0) * (ys.getD ((k).toNat) 0))) * 5))))).length = us.length := List.length_set
        refine RunR.dn ?_
        refine kblock_n ?_
        refine kseq_n ?_
        refine RunC.region ?_
        refine RunR.sil hU [0] 2 2 [0, 3, 4, 5, 8, 11] [(0, pt b), (3, pt b1), (4, pt b2), (5, .int .i64 i), (8, .int .i64 i), (11, .int .i64 (k + 1))] ((-9223372036854775808 ≤ (k + 1) ∧ (k + 1) < 9223372036854775808) ∧ (True) ∧ True) rfl (by kernel_rfl) ⟨(by omega), trivial, trivial⟩ ?_
        refine RunR.dn ?_
        refine kloop_n _ [0, 3, 4, 5, 8, 11] [0, 0, 0] [(0, pt b), (3, pt b1), (4, pt b2), (5, .int .i64 i), (8, .int .i64 i), (11, .int .i64 (k + 1))] [blk b2 113 (nums .u64 (us.set (((i + k) % (5 : Int)).toNat) (IntKind.wrap .u64 ((us.getD (((i + k) % (5 : Int)).toNat) 0) + (IntKind.wrap .u64 ((IntKind.wrap .u64 ((xs.getD ((i).toNat) 0) * (ys.getD ((k).toNat) 0))) * 5)))))), blk b1 113 (nums .u64 ys), blk b 113 (nums .u64 xs)] (by kernel_rfl) (by kernel_rfl) ?_ ⟨(k + 1), (us.set (((i + k) % (5 : Int)).toNat) (IntKind.wrap .u64 ((us.getD (((i + k) % (5 : Int)).toNat) 0) + (IntKind.wrap .u64 ((IntKind.wrap .u64 ((xs.getD ((i).toNat) 0) * (ys.getD ((k).toNat) 0))) * 5))))), (by first | assumption | omega | (simp only [List.length_append, List.length_cons, List.length_nil, List.length_set, List.length_replicate, List.length_take, List.length_drop]; omega) | (simp only [fits] at *; omega) | (simp only [List.length_append, List.length_cons, List.length_nil, List.length_set, List.length_replicate, List.length_take, List.length_drop] at *; omega) | (simp; done) | decide), (by first | assumption | omega | (simp only [List.length_append, List.length_cons, List.length_nil, List.length_set, List.length_replicate, List.length_take, List.length_drop]; omega) | (simp only [fits] at *; omega) | (simp only [List.length_append, List.length_cons, List.length_nil, List.length_set, List.length_replicate, List.length_take, List.length_drop] at *; omega) | (simp; done) | decide), (by rw [show 5 * i.toNat + (k + 1).toNat = 5 * i.toNat + k.toNat + 1 by omega]; exact t_step hX hY hi (by omega) hk (by omega) hu (by first | exact (t_term hX hY hi (by omega) hk (by omega)).1 (by omega) | exact (t_term hX hY hi (by omega) hk (by omega)).2 (by omega))), (by rw [List.length_set]; exact hul), rfl, (by first | rfl | simp only [List.length_set]), (by first | rfl | simp only [List.length_set])⟩
        show ((5 - (k + 1)).toNat : Nat) < ((5 - k).toNat : Nat)
        omega
      · skip
        refine RunC.ks ?_
        refine RunC.region ?_
        refine RunR.sil hU [2, 3] 5 5 [0, 3, 4, 5, 7, 8, 11, 32, 33] [(0, pt b), (3, pt b1), (4, pt b2), (5, .int .i64 i), (7, .int .u64 (IntKind.wrap .u64 ((xs.getD ((i).toNat) 0) * (ys.getD ((k).toNat) 0)))), (8, .int .i64 i), (11, .int .i64 k), (32, .int .i64 ((i + k) % (5 : Int))), (33, .pointer (some ⟨b2, 0 + ((i + k) % (5 : Int)).toNat * 1, none⟩))] ((True) ∧ (True) ∧ (-9223372036854775808 ≤ (i + k) ∧ (i + k) < 9223372036854775808) ∧ (0 ≤ (i + k) ∧ 0 < (5 : Int)) ∧ (0 ≤ ((i + k) % (5 : Int)) ∧ ((i + k) % (5 : Int)) < ((5 : Nat) : Int)) ∧ True) rfl (by kernel_rfl) ⟨trivial, trivial, (by omega), (by omega), (by omega), trivial⟩ ?_
        refine RunR.st (some 34) (.load 73 (.tmp 33)) (Step.load_blknum hU 0 b2 (0 + ((i + k) % (5 : Int)).toNat * 1) 113 (((i + k) % (5 : Int)).toNat) .u64 us rfl (by kernel_rfl) (by kernel_rfl) (by kernel_rfl) (by omega) (by first | omega | (simp only [List.length_cons, List.length_nil]; omega)) ?_)
        refine RunR.sil hU [] 3 9 [0, 3, 4, 5, 8, 11, 36, 37] [(0, pt b), (3, pt b1), (4, pt b2), (5, .int .i64 i), (8, .int .i64 i), (11, .int .i64 k), (36, .int .u64 (IntKind.wrap .u64 ((us.getD (((i + k) % (5 : Int)).toNat) 0) + (IntKind.wrap .u64 ((xs.getD ((i).toNat) 0) * (ys.getD ((k).toNat) 0)))))), (37, .pointer (some ⟨b2, 0 + ((i + k) % (5 : Int)).toNat * 1, none⟩))] ((True) ∧ (True) ∧ (0 ≤ ((i + k) % (5 : Int)) ∧ ((i + k) % (5 : Int)) < ((5 : Nat) : Int)) ∧ True) rfl (by kernel_rfl) ⟨trivial, trivial, (by omega), trivial⟩ ?_
        refine RunR.st none (.store 73 (.tmp 37) (.tmp 36)) (Step.store_blknum hU 0 b2 (0 + ((i + k) % (5 : Int)).toNat * 1) 113 (((i + k) % (5 : Int)).toNat) .u64 us (IntKind.wrap .u64 ((us.getD (((i + k) % (5 : Int)).toNat) 0) + (IntKind.wrap .u64 ((xs.getD ((i).toNat) 0) * (ys.getD ((k).toNat) 0))))) (by kernel_rfl) (by kernel_rfl) (by kernel_rfl) rfl (by omega) (by first | omega | (simp only [List.length_cons, List.length_nil]; omega)) ?_)
        have hl8 : (us.set (((i + k) % (5 : Int)).toNat) (IntKind.wrap .u64 ((us.getD (((i + k) % (5 : Int)).toNat) 0) + (IntKind.wrap .u64 ((xs.getD ((i).toNat) 0) * (ys.getD ((k).toNat) 0)))))).length = us.length := List.length_set
        refine RunR.dn ?_
        refine kblock_n ?_
        refine kseq_n ?_
        refine RunC.region ?_
        refine RunR.sil hU [0] 2 2 [0, 3, 4, 5, 8, 11] [(0, pt b), (3, pt b1), (4, pt b2), (5, .int .i64 i), (8, .int .i64 i), (11, .int .i64 (k + 1))] ((-9223372036854775808 ≤ (k + 1) ∧ (k + 1) < 9223372036854775808) ∧ (True) ∧ True) rfl (by kernel_rfl) ⟨(by omega), trivial, trivial⟩ ?_
        refine RunR.dn ?_
        refine kloop_n _ [0, 3, 4, 5, 8, 11] [0, 0, 0] [(0, pt b), (3, pt b1), (4, pt b2), (5, .int .i64 i), (8, .int .i64 i), (11, .int .i64 (k + 1))] [blk b2 113 (nums .u64 (us.set (((i + k) % (5 : Int)).toNat) (IntKind.wrap .u64 ((us.getD (((i + k) % (5 : Int)).toNat) 0) + (IntKind.wrap .u64 ((xs.getD ((i).toNat) 0) * (ys.getD ((k).toNat) 0))))))), blk b1 113 (nums .u64 ys), blk b 113 (nums .u64 xs)] (by kernel_rfl) (by kernel_rfl) ?_ ⟨(k + 1), (us.set (((i + k) % (5 : Int)).toNat) (IntKind.wrap .u64 ((us.getD (((i + k) % (5 : Int)).toNat) 0) + (IntKind.wrap .u64 ((xs.getD ((i).toNat) 0) * (ys.getD ((k).toNat) 0)))))), (by first | assumption | omega | (simp only [List.length_append, List.length_cons, List.length_nil, List.length_set, List.length_replicate, List.length_take, List.length_drop]; omega) | (simp only [fits] at *; omega) | (simp only [List.length_append, List.length_cons, List.length_nil, List.length_set, List.length_replicate, List.length_take, List.length_drop] at *; omega) | (simp; done) | decide), (by first | assumption | omega | (simp only [List.length_append, List.length_cons, List.length_nil, List.length_set, List.length_replicate, List.length_take, List.length_drop]; omega) | (simp only [fits] at *; omega) | (simp only [List.length_append, List.length_cons, List.length_nil, List.length_set, List.length_replicate, List.length_take, List.length_drop] at *; omega) | (simp; done) | decide), (by rw [show 5 * i.toNat + (k + 1).toNat = 5 * i.toNat + k.toNat + 1 by omega]; exact t_step hX hY hi (by omega) hk (by omega) hu (by first | exact (t_term hX hY hi (by omega) hk (by omega)).1 (by omega) | exact (t_term hX hY hi (by omega) hk (by omega)).2 (by omega))), (by rw [List.length_set]; exact hul), rfl, (by first | rfl | simp only [List.length_set]), (by first | rfl | simp only [List.length_set])⟩
        show ((5 - (k + 1)).toNat : Nat) < ((5 - k).toNat : Nat)
        omega
    · skip
      refine RunC.exit ?_
      refine kseq_e ?_
      refine kloop_e ?_
      refine kblock_e ?_
      refine kblock_n ?_
      refine kseq_n ?_
      refine RunC.region ?_
      refine RunR.sil hU [0] 2 2 [0, 3, 4, 8] [(0, pt b), (3, pt b1), (4, pt b2), (8, .int .i64 (i + 1))] ((-9223372036854775808 ≤ (i + 1) ∧ (i + 1) < 9223372036854775808) ∧ (True) ∧ True) rfl (by kernel_rfl) ⟨(by omega), trivial, trivial⟩ ?_
      refine RunR.dn ?_
      refine kloop_n _ [0, 3, 4, 8] [0, 0, 0] [(0, pt b), (3, pt b1), (4, pt b2), (8, .int .i64 (i + 1))] [blk b2 113 (nums .u64 us), blk b1 113 (nums .u64 ys), blk b 113 (nums .u64 xs)] (by kernel_rfl) (by kernel_rfl) ?_ ⟨(i + 1), us, (by first | assumption | omega | (simp only [List.length_append, List.length_cons, List.length_nil, List.length_set, List.length_replicate, List.length_take, List.length_drop]; omega) | (simp only [fits] at *; omega) | (simp only [List.length_append, List.length_cons, List.length_nil, List.length_set, List.length_replicate, List.length_take, List.length_drop] at *; omega) | (simp; done) | decide), (by first | assumption | omega | (simp only [List.length_append, List.length_cons, List.length_nil, List.length_set, List.length_replicate, List.length_take, List.length_drop]; omega) | (simp only [fits] at *; omega) | (simp only [List.length_append, List.length_cons, List.length_nil, List.length_set, List.length_replicate, List.length_take, List.length_drop] at *; omega) | (simp; done) | decide), (by rw [show 5 * (i + 1).toNat = 5 * i.toNat + k.toNat by omega]; exact hu), (by exact hul), rfl, (by first | rfl | simp only [List.length_set]), (by first | rfl | simp only [List.length_set])⟩
      show ((5 - (i + 1)).toNat : Nat) < ((5 - i).toNat : Nat)
      omega
  · skip
    refine RunC.exit ?_
    refine kseq_e ?_
    refine kloop_e ?_
    refine kblock_e ?_
    refine kseq_n ?_
    refine RunC.sr ?_
    refine RunR.sl hU [] 1 1 [0, 4, 40] [(0, pt b), (4, pt b2), (40, pt b)] 1 ?_
    refine RunR.st (some 41) (.load 113 (.tmp 4)) (Step.load_arr hU 0 b2 113 5 .u64 os (by kernel_rfl) (by kernel_rfl) (by kernel_rfl) (by kernel_rfl) (by first | rfl | omega | (simp; done)) (by kernel_rfl) ?_)
    refine RunR.sl hU [] 1 3 [0, 41, 42] [(0, pt b), (41, ag .u64 os), (42, pt b)] 1 ?_
    refine RunR.st none (.store 113 (.tmp 42) (.tmp 41)) (Step.store_arr hU 2 b 113 5 .u64 xs os (by kernel_rfl) (by kernel_rfl) (by kernel_rfl) (by kernel_rfl) (by first | rfl | omega | (simp; done)) (by first | rfl | omega | (simp; done)) ?_)
    refine RunR.nn ?_
    refine RunC.region ?_
    refine RunR.sl hU [] 1 1 [43] [(43, pt b)] 1 ?_
    refine RunR.st (some 44) (.call { callee := .value (.func 91), args := #[.tmp 43], argTypes := #[135] }) (Step.cn 91 [pt b] [blk b 113 (nums .u64 os)] [blk b2 113 (nums .u64 os), blk b1 113 (nums .u64 ys)] (y_carry_spec b os (by rw [ho, show 5 * i.toNat = 25 by omega]; exact (t_end hX hY hv hw).1) (by first | rfl | assumption | omega | (simp only [List.length_append, List.length_cons, List.length_nil, List.length_set, List.length_replicate, List.length_take, List.length_drop]; omega) | (simp; done))) [0] ?_)
    rintro _ _ ⟨zs9, rfl, rfl, hp10, hp11⟩
    refine RunR.dn ?_
    refine kret_n [] [0] [blk b 113 (nums .u64 zs9)] trivial (by kernel_rfl) rfl ⟨zs9, rfl, rfl, (by simp only [hp10]; rw [ho, show 5 * i.toNat = 25 by omega]; exact kR_pe (t_end hX hY hv hw).1 (t_end hX hY hv hw).2), (by assumption)⟩

theorem y_reduce_spec (b : Nat) (xs : List Int) (v : Int) (hE : PE xs v) (hlx : xs.length = 5) :
    CallsS Try.prog 68 [pt b] [blk b 113 (nums .u64 xs)] (fun r D => ∃ (zs : List Int), r = .tuple #[] ∧ D = [blk b 113 (nums .u64 zs)] ∧ (PR zs v) ∧ (zs.length = 5)) := by
  refine CallsS.enter hU Try.f68 _ [] 45 Try.func68 rfl (by decide) rfl rfl (by kernel_rfl) fun w0 W => ?_
  refine RunC.sr ?_
  refine RunR.sl hU [] 1 1 [0, 4] [(0, pt b), (4, pt b)] 1 ?_
  refine RunR.st (some 5) (.call { callee := .value (.func 91), args := #[.tmp 4], argTypes := #[135] }) (Step.cn 91 [pt b] [blk b 113 (nums .u64 xs)] [] (y_carry_spec b xs (by first | exact hE.lim.mono (by decide) | (simp only []; exact ((kR_pe (hE.lim.mono (by decide)) hE.vl).lim).mono (by decide))) (by first | rfl | assumption | omega | (simp only [List.length_append, List.length_cons, List.length_nil, List.length_set, List.length_replicate, List.length_take, List.length_drop]; omega) | (simp; done))) [0] ?_)
  rintro _ _ ⟨zs1, rfl, rfl, hp2, hp3⟩
  refine RunR.nx ?_
  refine RunR.sl hU [] 1 1 [0, 6] [(0, pt b), (6, pt b)] 1 ?_
  refine RunR.st (some 7) (.call { callee := .value (.func 91), args := #[.tmp 6], argTypes := #[135] }) (Step.cn 91 [pt b] [blk b 113 (nums .u64 zs1)] [] (y_carry_spec b zs1 (by first | exact hE.lim.mono (by decide) | (simp only [hp2]; exact ((kR_pe (hE.lim.mono (by decide)) hE.vl).lim).mono (by decide))) (by first | rfl | assumption | omega | (simp only [List.length_append, List.length_cons, List.length_nil, List.length_set, List.length_replicate, List.length_take, List.length_drop]; omega) | (simp; done))) [0] ?_)
  rintro _ _ ⟨zs4, rfl, rfl, hp5, hp6⟩
  refine RunR.nx ?_
  refine RunR.sl hU [] 2 2 [0, 9] [(0, pt b), (9, pt b)] 2 ?_
  refine RunR.st (some 10) (.load 113 (.tmp 9)) (Step.load_arr hU 0 b 113 5 .u64 zs4 (by kernel_rfl) (by kernel_rfl) (by kernel_rfl) (by kernel_rfl) (by first | rfl | omega | (simp; done)) (by kernel_rfl) ?_)
  refine RunR.st (some 2) (.alloc 113) (Step.al hU 5 40 z5 (fun b7 => ?_))
  have hl8 : (List.replicate 5 (0 : Int)).length = 5 := List.length_replicate
  refine RunR.st none (.store 113 (.tmp 2) (.tmp 10)) (Step.store_arr hU 0 b7 113 5 .u64 (List.replicate 5 (0 : Int)) zs4 (by kernel_rfl) (by kernel_rfl) (by kernel_rfl) (by kernel_rfl) (by first | rfl | omega | (simp; done)) (by first | rfl | omega | (simp; done)) ?_)
  refine RunR.nx ?_
  refine RunR.sil hU [] 1 1 [0, 2, 11] [(0, pt b), (2, pt b7), (11, pt b7)] ((0 ≤ (0 : Int) ∧ (0 : Int) < ((5 : Nat) : Int)) ∧ True) rfl (by kernel_rfl) ⟨(by omega), trivial⟩ ?_
  refine RunR.st (some 12) (.load 73 (.tmp 11)) (Step.load_blknum hU 0 b7 (0) 113 0 .u64 zs4 rfl (by kernel_rfl) (by kernel_rfl) (by kernel_rfl) (by omega) (by first | omega | (simp only [List.length_cons, List.length_nil]; omega)) ?_)
  refine RunR.sil hU [] 2 4 [0, 2, 13, 14] [(0, pt b), (2, pt b7), (13, .int .u64 (IntKind.wrap .u64 ((zs4.getD 0 0) + 5))), (14, pt b7)] ((True) ∧ (0 ≤ (0 : Int) ∧ (0 : Int) < ((5 : Nat) : Int)) ∧ True) rfl (by kernel_rfl) ⟨trivial, (by omega), trivial⟩ ?_
  refine RunR.st none (.store 73 (.tmp 14) (.tmp 13)) (Step.store_blknum hU 0 b7 (0) 113 0 .u64 zs4 (IntKind.wrap .u64 ((zs4.getD 0 0) + 5)) (by kernel_rfl) (by kernel_rfl) (by kernel_rfl) rfl (by omega) (by first | omega | (simp only [List.length_cons, List.length_nil]; omega)) ?_)
  have hl9 : (zs4.set 0 (IntKind.wrap .u64 ((zs4.getD 0 0) + 5))).length = zs4.length := List.length_set
  refine RunR.nn ?_
  refine RunC.seq ?_
  refine RunC.sr ?_
  refine RunR.sl hU [] 1 1 [0, 2, 15] [(0, pt b), (2, pt b7), (15, .int .i64 0)] 1 ?_
  refine RunR.nn ?_
  refine RunC.block ?_
  have hR : L5 67108864 zs4 ∧ vP zs4 % Q = v := by simp only [hp2, hp5]; exact kk_two hE
  refine RunC.env [0, 2, 15] [(0, pt b), (2, pt b7), (15, .int .i64 0)] (by kernel_rfl) ?_
  refine RunC.only [0, 0] [blk b7 113 (nums .u64 (zs4.set 0 (IntKind.wrap .u64 ((zs4.getD 0 0) + 5)))), blk b 113 (nums .u64 zs4)] (by kernel_rfl) ?_
  refine RunC.loop (σ := Nat) (fun n_ t_ D_ => ∃ (i : Int) (os : List Int), (0 ≤ i) ∧ (i ≤ 4) ∧ (os = mS (up5 zs4) i.toNat) ∧ (os.length = 5) ∧ n_ = ((4 - i).toNat : Nat) ∧ t_ = [(0, pt b), (2, pt b7), (15, .int .i64 i)] ∧ D_ = [blk b7 113 (nums .u64 os), blk b 113 (nums .u64 zs4)]) id _ ⟨0, (zs4.set 0 (IntKind.wrap .u64 ((zs4.getD 0 0) + 5))), (by first | assumption | omega | (simp only [List.length_append, List.length_cons, List.length_nil, List.length_set, List.length_replicate, List.length_take, List.length_drop]; omega) | (simp only [fits] at *; omega) | (simp only [List.length_append, List.length_cons, List.length_nil, List.length_set, List.length_replicate, List.length_take, List.length_drop] at *; omega) | (simp; done) | decide), (by first | assumption | omega | (simp only [List.length_append, List.length_cons, List.length_nil, List.length_set, List.length_replicate, List.length_take, List.length_drop]; omega) | (simp only [fits] at *; omega) | (simp only [List.length_append, List.length_cons, List.length_nil, List.length_set, List.length_replicate, List.length_take, List.length_drop] at *; omega) | (simp; done) | decide), (by exact m_start hR.1), (by rw [List.length_set]; assumption), rfl, rfl, rfl⟩ ?_
  rintro n_ _ _ ⟨i, os, hi, hi4, ho, hol, rfl, rfl, rfl⟩
  refine RunC.sr ?_
  refine RunR.sl hU [] 1 1 [0, 2, 15, 16] [(0, pt b), (2, pt b7), (15, .int .i64 i), (16, .bool (decide (i < 4)))] 1 ?_
  refine RunR.nn ?_
  refine RunC.seq ?_
  refine RunC.condp (i < 4) (by kernel_rfl) (fun h10 => ?_) (fun h10 => ?_)
  · skip
    refine RunC.ks ?_
    refine RunC.seq ?_
    refine RunC.block ?_
    refine RunC.sr ?_
    refine RunR.sl hU [] 2 2 [0, 2, 3, 15] [(0, pt b), (2, pt b7), (3, .int .i64 i), (15, .int .i64 i)] 2 ?_
    refine RunR.nn ?_
    refine RunC.seq ?_
    refine RunC.regionU hU 11 [blk b7 113 (nums .u64 os)] [0] [9, 10] (bm 11 0) (by kernel_rfl) (by kernel_rfl) (by kernel_rfl) ?_
    refine RunU.sl hU 0 (bm 11 1) 18 (.int .i64 i) ?_
    refine RunU.sil hU true 1 (bm 11 3) 19 (.int .i64 (i + 1)) (-9223372036854775808 ≤ (i + 1) ∧ (i + 1) < 9223372036854775808) (by kernel_rfl) (by omega) (by kernel_rfl) (by kernel_rfl) (fun _ _ _ h => h) ?_
    refine RunU.sil hU false 2 (bm 11 7) 20 (.pointer (some ⟨b7, 0 + (i + 1).toNat * 1, none⟩)) (0 ≤ (i + 1) ∧ (i + 1) < ((5 : Nat) : Int)) (by kernel_rfl) (by omega) (by kernel_rfl) (by kernel_rfl) (fun _ _ _ h => h) ?_
    refine RunU.rd 3 (bm 11 15) 21 (.load 73 (.tmp 20)) (.int .u64 (os.getD ((i + 1).toNat) 0)) [0] (Reads.load_blknum hU 0 b7 (0 + (i + 1).toNat * 1) 113 ((i + 1).toNat) .u64 os rfl (by kernel_rfl) (by kernel_rfl) (by omega) (by first | omega | (simp only [List.length_cons, List.length_nil]; omega))) ?_
    refine RunU.sl hU 4 (bm 11 31) 22 (.int .i64 i) ?_
    refine RunU.sil hU false 5 (bm 11 63) 23 (.pointer (some ⟨b7, 0 + (i).toNat * 1, none⟩)) (0 ≤ i ∧ i < ((5 : Nat) : Int)) (by kernel_rfl) (by omega) (by kernel_rfl) (by kernel_rfl) (fun _ _ _ h => h) ?_
    refine RunU.rd 6 (bm 11 127) 24 (.load 73 (.tmp 23)) (.int .u64 (os.getD ((i).toNat) 0)) [0] (Reads.load_blknum hU 0 b7 (0 + (i).toNat * 1) 113 ((i).toNat) .u64 os rfl (by kernel_rfl) (by kernel_rfl) (by omega) (by first | omega | (simp only [List.length_cons, List.length_nil]; omega))) ?_
    refine RunU.sil hU true 7 (bm 11 255) 25 (.int .u64 ((os.getD ((i).toNat) 0) / 2 ^ 26)) (0 ≤ (26 : Int)) (by kernel_rfl) (by omega) (by kernel_rfl) (by kernel_rfl) (fun _ _ _ h => h) ?_
    refine RunU.sl hU 8 (bm 11 511) 26 (.int .u64 (IntKind.wrap .u64 ((os.getD ((i + 1).toNat) 0) + ((os.getD ((i).toNat) 0) / 2 ^ 26)))) ?_
    refine RunU.sil hU false 9 (bm 11 1023) 27 (.pointer (some ⟨b7, 0 + (i + 1).toNat * 1, none⟩)) (0 ≤ (i + 1) ∧ (i + 1) < ((5 : Nat) : Int)) (by kernel_rfl) (by omega) (by kernel_rfl) (by kernel_rfl) (fun _ _ _ h => h) ?_
    refine RunU.on none (.store 73 (.tmp 27) (.tmp 26)) 10 (bm 11 2047) [] (Step.store_blknum hU 0 b7 (0 + (i + 1).toNat * 1) 113 ((i + 1).toNat) .u64 os (IntKind.wrap .u64 ((os.getD ((i + 1).toNat) 0) + ((os.getD ((i).toNat) 0) / 2 ^ 26))) (by kernel_rfl) (by kernel_rfl) (by kernel_rfl) rfl (by omega) (by first | omega | (simp only [List.length_cons, List.length_nil]; omega)) ?_)
    have hl11 : (os.set ((i + 1).toNat) (IntKind.wrap .u64 ((os.getD ((i + 1).toNat) 0) + ((os.getD ((i).toNat) 0) / 2 ^ 26)))).length = os.length := List.length_set
    refine orR ?_
    refine RunU.ev [0, 2, 3, 15] [(0, pt b), (2, pt b7), (3, .int .i64 i), (15, .int .i64 i)] ?_
    refine RunU.dn ?_
    refine kseq_n ?_
    refine RunC.region ?_
    refine RunR.sil hU [] 2 2 [0, 2, 15, 28, 29] [(0, pt b), (2, pt b7), (15, .int .i64 i), (28, .int .i64 i), (29, .pointer (some ⟨b7, 0 + (i).toNat * 1, none⟩))] ((True) ∧ (0 ≤ i ∧ i < ((5 : Nat) : Int)) ∧ True) rfl (by kernel_rfl) ⟨trivial, (by omega), trivial⟩ ?_
    refine RunR.st (some 30) (.load 73 (.tmp 29)) (Step.load_blknum hU 0 b7 (0 + (i).toNat * 1) 113 ((i).toNat) .u64 (os.set ((i + 1).toNat) (IntKind.wrap .u64 ((os.getD ((i + 1).toNat) 0) + ((os.getD ((i).toNat) 0) / 2 ^ 26)))) rfl (by kernel_rfl) (by kernel_rfl) (by kernel_rfl) (by omega) (by first | omega | (simp only [List.length_cons, List.length_nil]; omega)) ?_)
    have hm12 := and_le .u64 rfl ((os.set ((i + 1).toNat) (IntKind.wrap .u64 ((os.getD ((i + 1).toNat) 0) + ((os.getD ((i).toNat) 0) / 2 ^ 26)))).getD ((i).toNat) 0) 67108863 (by decide) (by decide)
    refine RunR.sil hU [] 2 5 [0, 2, 15, 31, 32] [(0, pt b), (2, pt b7), (15, .int .i64 i), (31, .int .u64 (bits2 .and .u64 ((os.set ((i + 1).toNat) (IntKind.wrap .u64 ((os.getD ((i + 1).toNat) 0) + ((os.getD ((i).toNat) 0) / 2 ^ 26)))).getD ((i).toNat) 0) 67108863)), (32, .pointer (some ⟨b7, 0 + (i).toNat * 1, none⟩))] ((True) ∧ (0 ≤ i ∧ i < ((5 : Nat) : Int)) ∧ True) rfl (by kernel_rfl) ⟨trivial, (by omega), trivial⟩ ?_
    refine RunR.st none (.store 73 (.tmp 32) (.tmp 31)) (Step.store_blknum hU 0 b7 (0 + (i).toNat * 1) 113 ((i).toNat) .u64 (os.set ((i + 1).toNat) (IntKind.wrap .u64 ((os.getD ((i + 1).toNat) 0) + ((os.getD ((i).toNat) 0) / 2 ^ 26)))) (bits2 .and .u64 ((os.set ((i + 1).toNat) (IntKind.wrap .u64 ((os.getD ((i + 1).toNat) 0) + ((os.getD ((i).toNat) 0) / 2 ^ 26)))).getD ((i).toNat) 0) 67108863) (by kernel_rfl) (by kernel_rfl) (by kernel_rfl) rfl (by omega) (by first | omega | (simp only [List.length_cons, List.length_nil]; omega)) ?_)
    have hl13 : ((os.set ((i + 1).toNat) (IntKind.wrap .u64 ((os.getD ((i + 1).toNat) 0) + ((os.getD ((i).toNat) 0) / 2 ^ 26)))).set ((i).toNat) (bits2 .and .u64 ((os.set ((i + 1).toNat) (IntKind.wrap .u64 ((os.getD ((i + 1).toNat) 0) + ((os.getD ((i).toNat) 0) / 2 ^ 26)))).getD ((i).toNat) 0) 67108863)).length = (os.set ((i + 1).toNat) (IntKind.wrap .u64 ((os.getD ((i + 1).toNat) 0) + ((os.getD ((i).toNat) 0) / 2 ^ 26)))).length := List.length_set
    refine RunR.dn ?_
    refine kblock_n ?_
    refine kseq_n ?_
    refine RunC.region ?_
    refine RunR.sil hU [0] 2 2 [0, 2, 15] [(0, pt b), (2, pt b7), (15, .int .i64 (i + 1))] ((-9223372036854775808 ≤ (i + 1) ∧ (i + 1) < 9223372036854775808) ∧ (True) ∧ True) rfl (by kernel_rfl) ⟨(by omega), trivial, trivial⟩ ?_
    refine RunR.dn ?_
    refine kloop_n _ [0, 2, 15] [0, 0] [(0, pt b), (2, pt b7), (15, .int .i64 (i + 1))] [blk b7 113 (nums .u64 ((os.set ((i + 1).toNat) (IntKind.wrap .u64 ((os.getD ((i + 1).toNat) 0) + ((os.getD ((i).toNat) 0) / 2 ^ 26)))).set ((i).toNat) (bits2 .and .u64 ((os.set ((i + 1).toNat) (IntKind.wrap .u64 ((os.getD ((i + 1).toNat) 0) + ((os.getD ((i).toNat) 0) / 2 ^ 26)))).getD ((i).toNat) 0) 67108863))), blk b 113 (nums .u64 zs4)] (by kernel_rfl) (by kernel_rfl) ?_ ⟨(i + 1), ((os.set ((i + 1).toNat) (IntKind.wrap .u64 ((os.getD ((i + 1).toNat) 0) + ((os.getD ((i).toNat) 0) / 2 ^ 26)))).set ((i).toNat) (bits2 .and .u64 ((os.set ((i + 1).toNat) (IntKind.wrap .u64 ((os.getD ((i + 1).toNat) 0) + ((os.getD ((i).toNat) 0) / 2 ^ 26)))).getD ((i).toNat) 0) 67108863)), (by first | assumption | omega | (simp only [List.length_append, List.length_cons, List.length_nil, List.length_set, List.length_replicate, List.length_take, List.length_drop]; omega) | (simp only [fits] at *; omega) | (simp only [List.length_append, List.length_cons, List.length_nil, List.length_set, List.length_replicate, List.length_take, List.length_drop] at *; omega) | (simp; done) | decide), (by first | assumption | omega | (simp only [List.length_append, List.length_cons, List.length_nil, List.length_set, List.length_replicate, List.length_take, List.length_drop]; omega) | (simp only [fits] at *; omega) | (simp only [List.length_append, List.length_cons, List.length_nil, List.length_set, List.length_replicate, List.length_take, List.length_drop] at *; omega) | (simp; done) | decide), (by rw [show (i + 1).toNat = i.toNat + 1 by omega]; exact m_step (up5_lim hR.1) (by omega) ho), (by rw [List.length_set, List.length_set]; exact hol), rfl, (by first | rfl | simp only [List.length_set]), (by first | rfl | simp only [List.length_set])⟩
    show ((4 - (i + 1)).toNat : Nat) < ((4 - i).toNat : Nat)
    omega
  · skip
    refine RunC.exit ?_
    refine kseq_e ?_
    refine kloop_e ?_
    refine kblock_e ?_
    refine kseq_n ?_
    refine RunC.sr ?_
    refine RunR.sil hU [] 1 1 [0, 2, 34] [(0, pt b), (2, pt b7), (34, .pointer (some ⟨b7, 4, none⟩))] ((0 ≤ (4 : Int) ∧ (4 : Int) < ((5 : Nat) : Int)) ∧ True) rfl (by kernel_rfl) ⟨(by omega), trivial⟩ ?_
    refine RunR.st (some 35) (.load 73 (.tmp 34)) (Step.load_blknum hU 0 b7 (4) 113 4 .u64 os rfl (by kernel_rfl) (by kernel_rfl) (by kernel_rfl) (by omega) (by first | omega | (simp only [List.length_cons, List.length_nil]; omega)) ?_)
    refine RunR.sil hU [2] 2 4 [0, 2, 37] [(0, pt b), (2, pt b7), (37, .bool (!decide (((os.getD 4 0) / 2 ^ 26) = 0)))] ((0 ≤ (26 : Int)) ∧ (True) ∧ True) rfl (by kernel_rfl) ⟨(by omega), trivial, trivial⟩ ?_
    refine RunR.nn ?_
    refine RunC.condn (((os.getD 4 0) / 2 ^ 26) = 0) (by kernel_rfl) (fun h14 => ?_) (fun h14 => ?_)
    · skip
      refine RunC.sr ?_
      refine RunR.sil hU [] 1 1 [0, 2, 38] [(0, pt b), (2, pt b7), (38, .pointer (some ⟨b7, 4, none⟩))] ((0 ≤ (4 : Int) ∧ (4 : Int) < ((5 : Nat) : Int)) ∧ True) rfl (by kernel_rfl) ⟨(by omega), trivial⟩ ?_
      refine RunR.st (some 39) (.load 73 (.tmp 38)) (Step.load_blknum hU 0 b7 (4) 113 4 .u64 os rfl (by kernel_rfl) (by kernel_rfl) (by kernel_rfl) (by omega) (by first | omega | (simp only [List.length_cons, List.length_nil]; omega)) ?_)
      have hm15 := and_le .u64 rfl (os.getD 4 0) 67108863 (by decide) (by decide)
      refine RunR.sil hU [] 2 4 [0, 2, 40, 41] [(0, pt b), (2, pt b7), (40, .int .u64 (bits2 .and .u64 (os.getD 4 0) 67108863)), (41, .pointer (some ⟨b7, 4, none⟩))] ((True) ∧ (0 ≤ (4 : Int) ∧ (4 : Int) < ((5 : Nat) : Int)) ∧ True) rfl (by kernel_rfl) ⟨trivial, (by omega), trivial⟩ ?_
      refine RunR.st none (.store 73 (.tmp 41) (.tmp 40)) (Step.store_blknum hU 0 b7 (4) 113 4 .u64 os (bits2 .and .u64 (os.getD 4 0) 67108863) (by kernel_rfl) (by kernel_rfl) (by kernel_rfl) rfl (by omega) (by first | omega | (simp only [List.length_cons, List.length_nil]; omega)) ?_)
      have hl16 : (os.set 4 (bits2 .and .u64 (os.getD 4 0) 67108863)).length = os.length := List.length_set
      refine RunR.nn ?_
      refine RunC.region ?_
      refine RunR.sl hU [] 1 1 [2, 42] [(2, pt b7), (42, pt b)] 1 ?_
      refine RunR.st (some 43) (.load 113 (.tmp 2)) (Step.load_arr hU 0 b7 113 5 .u64 (os.set 4 (bits2 .and .u64 (os.getD 4 0) 67108863)) (by kernel_rfl) (by kernel_rfl) (by kernel_rfl) (by kernel_rfl) (by first | rfl | omega | (simp; done)) (by kernel_rfl) ?_)
      refine RunR.sl hU [] 1 3 [43, 44] [(43, .agg (nums .u64 (os.set 4 (bits2 .and .u64 (os.getD 4 0) 67108863))).toArray), (44, pt b)] 1 ?_
      refine RunR.st none (.store 113 (.tmp 44) (.tmp 43)) (Step.store_arr hU 1 b 113 5 .u64 zs4 (os.set 4 (bits2 .and .u64 (os.getD 4 0) 67108863)) (by kernel_rfl) (by kernel_rfl) (by kernel_rfl) (by kernel_rfl) (by first | rfl | omega | (simp; done)) (by first | rfl | omega | (simp; done)) ?_)
      refine RunR.dn ?_
      refine kret_n [] [0] [blk b 113 (nums .u64 (os.set 4 (bits2 .and .u64 (os.getD 4 0) 67108863)))] trivial (by kernel_rfl) rfl ⟨(os.set 4 (bits2 .and .u64 (os.getD 4 0) 67108863)), rfl, rfl, (by exact (m_end (os := os) hR.1 hR.2 (by rw [ho, show i = 4 by omega] <;> rfl)).1 (by assumption)), (by rw [List.length_set]; exact hol)⟩
    · skip
      refine RunC.skip ?_
      refine kret_n [] [1] [blk b 113 (nums .u64 zs4)] trivial (by kernel_rfl) rfl ⟨zs4, rfl, rfl, (by exact (m_end (os := os) hR.1 hR.2 (by rw [ho, show i = 4 by omega] <;> rfl)).2 (by first | assumption | omega)), (by assumption)⟩

theorem y_bytes_spec (b : Nat) (ns : List Int) (v : Int) (A : Option Addr) (c : Nat) (xs : List Int) (l_xs : Nat) (hP : PR ns v) (hln : ns.length = 5) (hx : In .u8 xs) (hn : xs.length ≤ 140737488351232) (h16 : 16 ≤ xs.length) (hlc : xs.length ≤ c) (hl_xs : xs.length = l_xs) :
    CallsS Try.prog 69 [pt b, .slice A l_xs c] [blk b 113 (nums .u64 ns), vw A (nums .u8 xs)] (fun r D => ∃ (A2 : Option Addr) (c2 : Nat) (zs : List Int), r = .slice A2 zs.length c2 ∧ D = [blk b 113 (nums .u64 ns), row 5 1 (.slice A2 zs.length c2) zs.length (nums .u8 zs)] ∧ (zs = leB (v + leN xs 16) 16) ∧ (In .u8 zs) ∧ (zs.length ≤ c2) ∧ (0 < zs.length → Option.isSome A2 = true)) := by
  subst hl_xs
  refine CallsS.enter hU Try.f69 _ [.tmp 4] 63 Try.func69 rfl (by decide) rfl rfl (by kernel_rfl) fun w0 W => ?_
  refine RunC.know (p := 0 < xs.length → Option.isSome A = true) (fun _ _ w hs => vw_some hs 1 rfl (by first | (simp [nums_length]; done) | exact dosV_len _ | exact bls_len _ | exact chV_len _)) (fun hA1 => ?_)
  refine RunC.sr ?_
  refine RunR.sl hU [] 1 1 [0, 1, 4] [(0, pt b), (1, .slice A xs.length c), (4, .slice none 0 0)] 1 ?_
  refine RunR.nn ?_
  refine RunC.seq ?_
  refine RunC.regionU hU 17 [blk b 113 (nums .u64 ns)] [0] [16] (bm 17 0) (by kernel_rfl) (by kernel_rfl) (by kernel_rfl) ?_
  refine RunU.sl hU 0 (bm 17 1) 9 (pt b) ?_
  refine RunU.sl hU 1 (bm 17 3) 10 (pt b) ?_
  refine RunU.sil hU false 2 (bm 17 7) 11 (pt b) (0 ≤ (0 : Int) ∧ (0 : Int) < ((5 : Nat) : Int)) (by kernel_rfl) (by omega) (by kernel_rfl) (by kernel_rfl) (fun _ _ _ h => h) ?_
  refine RunU.rd 3 (bm 17 15) 12 (.load 73 (.tmp 11)) (.int .u64 (ns.getD 0 0)) [0] (Reads.load_blknum hU 0 b (0) 113 0 .u64 ns rfl (by kernel_rfl) (by kernel_rfl) (by omega) (by first | omega | (simp only [List.length_cons, List.length_nil]; omega))) ?_
  refine RunU.sl hU 4 (bm 17 31) 13 (pt b) ?_
  refine RunU.sl hU 5 (bm 17 63) 14 (pt b) ?_
  refine RunU.sil hU false 6 (bm 17 127) 15 (.pointer (some ⟨b, 1, none⟩)) (0 ≤ (1 : Int) ∧ (1 : Int) < ((5 : Nat) : Int)) (by kernel_rfl) (by omega) (by kernel_rfl) (by kernel_rfl) (fun _ _ _ h => h) ?_
  refine RunU.rd 7 (bm 17 255) 16 (.load 73 (.tmp 15)) (.int .u64 (ns.getD 1 0)) [0] (Reads.load_blknum hU 0 b (1) 113 1 .u64 ns rfl (by kernel_rfl) (by kernel_rfl) (by omega) (by first | omega | (simp only [List.length_cons, List.length_nil]; omega))) ?_
  refine RunU.sil hU false 8 (bm 17 511) 17 (.int .u64 (IntKind.wrap .u64 ((ns.getD 1 0) * 2 ^ 26))) (0 ≤ (26 : Int)) (by kernel_rfl) (by omega) (by kernel_rfl) (by kernel_rfl) (fun _ _ _ h => h) ?_
  refine RunU.sl hU 9 (bm 17 1023) 18 (.int .u64 (bits2 .or .u64 (ns.getD 0 0) (IntKind.wrap .u64 ((ns.getD 1 0) * 2 ^ 26)))) ?_
  refine RunU.sl hU 10 (bm 17 2047) 19 (pt b) ?_
  refine RunU.sl hU 11 (bm 17 4095) 20 (pt b) ?_
  refine RunU.sil hU false 12 (bm 17 8191) 21 (.pointer (some ⟨b, 2, none⟩)) (0 ≤ (2 : Int) ∧ (2 : Int) < ((5 : Nat) : Int)) (by kernel_rfl) (by omega) (by kernel_rfl) (by kernel_rfl) (fun _ _ _ h => h) ?_
  refine RunU.rd 13 (bm 17 16383) 22 (.load 73 (.tmp 21)) (.int .u64 (ns.getD 2 0)) [0] (Reads.load_blknum hU 0 b (2) 113 2 .u64 ns rfl (by kernel_rfl) (by kernel_rfl) (by omega) (by first | omega | (simp only [List.length_cons, List.length_nil]; omega))) ?_
  refine RunU.sil hU false 14 (bm 17 32767) 23 (.int .u64 (IntKind.wrap .u64 ((ns.getD 2 0) * 2 ^ 52))) (0 ≤ (52 : Int)) (by kernel_rfl) (by omega) (by kernel_rfl) (by kernel_rfl) (fun _ _ _ h => h) ?_
  refine RunU.sl hU 15 (bm 17 65535) 24 (.int .u64 (bits2 .or .u64 (bits2 .or .u64 (ns.getD 0 0) (IntKind.wrap .u64 ((ns.getD 1 0) * 2 ^ 26))) (IntKind.wrap .u64 ((ns.getD 2 0) * 2 ^ 52)))) ?_
  refine RunU.sl hU 16 (bm 17 131071) 5 (.int .u64 (bits2 .or .u64 (bits2 .or .u64 (ns.getD 0 0) (IntKind.wrap .u64 ((ns.getD 1 0) * 2 ^ 26))) (IntKind.wrap .u64 ((ns.getD 2 0) * 2 ^ 52)))) ?_
  refine RunU.ev [0, 1, 4, 5] [(0, pt b), (1, .slice A xs.length c), (4, .slice none 0 0), (5, .int .u64 (bits2 .or .u64 (bits2 .or .u64 (ns.getD 0 0) (IntKind.wrap .u64 ((ns.getD 1 0) * 2 ^ 26))) (IntKind.wrap .u64 ((ns.getD 2 0) * 2 ^ 52))))] ?_
  refine RunU.dn ?_
  refine kseq_n ?_
  refine RunC.seq ?_
  refine RunC.regionU hU 18 [blk b 113 (nums .u64 ns)] [0] [17] (bm 18 0) (by kernel_rfl) (by kernel_rfl) (by kernel_rfl) ?_
  refine RunU.sl hU 0 (bm 18 1) 25 (pt b) ?_
  refine RunU.sl hU 1 (bm 18 3) 26 (pt b) ?_
  refine RunU.sil hU false 2 (bm 18 7) 27 (.pointer (some ⟨b, 2, none⟩)) (0 ≤ (2 : Int) ∧ (2 : Int) < ((5 : Nat) : Int)) (by kernel_rfl) (by omega) (by kernel_rfl) (by kernel_rfl) (fun _ _ _ h => h) ?_
  refine RunU.rd 3 (bm 18 15) 28 (.load 73 (.tmp 27)) (.int .u64 (ns.getD 2 0)) [0] (Reads.load_blknum hU 0 b (2) 113 2 .u64 ns rfl (by kernel_rfl) (by kernel_rfl) (by omega) (by first | omega | (simp only [List.length_cons, List.length_nil]; omega))) ?_
  refine RunU.sil hU true 4 (bm 18 31) 29 (.int .u64 ((ns.getD 2 0) / 2 ^ 12)) (0 ≤ (12 : Int)) (by kernel_rfl) (by omega) (by kernel_rfl) (by kernel_rfl) (fun _ _ _ h => h) ?_
  refine RunU.sl hU 5 (bm 18 63) 30 (pt b) ?_
  refine RunU.sl hU 6 (bm 18 127) 31 (pt b) ?_
  refine RunU.sil hU false 7 (bm 18 255) 32 (.pointer (some ⟨b, 3, none⟩)) (0 ≤ (3 : Int) ∧ (3 : Int) < ((5 : Nat) : Int)) (by kernel_rfl) (by omega) (by kernel_rfl) (by kernel_rfl) (fun _ _ _ h => h) ?_
  refine RunU.rd 8 (bm 18 511) 33 (.load 73 (.tmp 32)) (.int .u64 (ns.getD 3 0)) [0] (Reads.load_blknum hU 0 b (3) 113 3 .u64 ns rfl (by kernel_rfl) (by kernel_rfl) (by omega) (by first | omega | (simp only [List.length_cons, List.length_nil]; omega))) ?_
  refine RunU.sil hU false 9 (bm 18 1023) 34 (.int .u64 (IntKind.wrap .u64 ((ns.getD 3 0) * 2 ^ 14))) (0 ≤ (14 : Int)) (by kernel_rfl) (by omega) (by kernel_rfl) (by kernel_rfl) (fun _ _ _ h => h) ?_
  refine RunU.sl hU 10 (bm 18 2047) 35 (.int .u64 (bits2 .or .u64 ((ns.getD 2 0) / 2 ^ 12) (IntKind.wrap .u64 ((ns.getD 3 0) * 2 ^ 14)))) ?_
  refine RunU.sl hU 11 (bm 18 4095) 36 (pt b) ?_
  refine RunU.sl hU 12 (bm 18 8191) 37 (pt b) ?_
  refine RunU.sil hU false 13 (bm 18 16383) 38 (.pointer (some ⟨b, 4, none⟩)) (0 ≤ (4 : Int) ∧ (4 : Int) < ((5 : Nat) : Int)) (by kernel_rfl) (by omega) (by kernel_rfl) (by kernel_rfl) (fun _ _ _ h => h) ?_
  refine RunU.rd 14 (bm 18 32767) 39 (.load 73 (.tmp 38)) (.int .u64 (ns.getD 4 0)) [0] (Reads.load_blknum hU 0 b (4) 113 4 .u64 ns rfl (by kernel_rfl) (by kernel_rfl) (by omega) (by first | omega | (simp only [List.length_cons, List.length_nil]; omega))) ?_
  refine RunU.sil hU false 15 (bm 18 65535) 40 (.int .u64 (IntKind.wrap .u64 ((ns.getD 4 0) * 2 ^ 40))) (0 ≤ (40 : Int)) (by kernel_rfl) (by omega) (by kernel_rfl) (by kernel_rfl) (fun _ _ _ h => h) ?_
  refine RunU.sl hU 16 (bm 18 131071) 41 (.int .u64 (bits2 .or .u64 (bits2 .or .u64 ((ns.getD 2 0) / 2 ^ 12) (IntKind.wrap .u64 ((ns.getD 3 0) * 2 ^ 14))) (IntKind.wrap .u64 ((ns.getD 4 0) * 2 ^ 40)))) ?_
  refine RunU.sl hU 17 (bm 18 262143) 6 (.int .u64 (bits2 .or .u64 (bits2 .or .u64 ((ns.getD 2 0) / 2 ^ 12) (IntKind.wrap .u64 ((ns.getD 3 0) * 2 ^ 14))) (IntKind.wrap .u64 ((ns.getD 4 0) * 2 ^ 40)))) ?_
  refine RunU.ev [1, 4, 5, 6] [(1, .slice A xs.length c), (4, .slice none 0 0), (5, .int .u64 (bits2 .or .u64 (bits2 .or .u64 (ns.getD 0 0) (IntKind.wrap .u64 ((ns.getD 1 0) * 2 ^ 26))) (IntKind.wrap .u64 ((ns.getD 2 0) * 2 ^ 52)))), (6, .int .u64 (bits2 .or .u64 (bits2 .or .u64 ((ns.getD 2 0) / 2 ^ 12) (IntKind.wrap .u64 ((ns.getD 3 0) * 2 ^ 14))) (IntKind.wrap .u64 ((ns.getD 4 0) * 2 ^ 40))))] ?_
  refine RunU.dn ?_
  refine kseq_n ?_
  refine RunC.seq ?_
  refine RunC.regionU hU 7 [] [] [6] (bm 7 0) (by kernel_rfl) (by kernel_rfl) (by kernel_rfl) ?_
  refine RunU.sl hU 0 (bm 7 1) 42 (.slice A xs.length c) ?_
  refine RunU.sl hU 2 (bm 7 5) 44 (.slice A xs.length c) ?_
  refine RunU.sil hU false 3 (bm 7 13) 45 (.slice (subBase A 8 c 1) (xs.length - 8) (c - 8)) (0 ≤ (8 : Int) ∧ (8 : Int) ≤ ((xs.length : Nat) : Int)) (by kernel_rfl) (by omega) (by kernel_rfl) (by kernel_rfl) (fun _ _ _ h => h) ?_
  obtain ⟨zs2, hz3⟩ : ∃ z : List Int, z = (xs.drop 8).take (xs.length - 8) := ⟨_, rfl⟩
  have hl4 : zs2.length = xs.length - 8 := by rw [hz3, List.length_take, List.length_drop]; omega
  have hB6_t : Tells (vw A (nums .u8 xs)) (subBase A 8 c 1) (nums .u8 zs2) := by rw [hz3]; exact tells_sub_nums (tells_vw _ _) _ _ _ (by omega) (by omega)
  have hA7 : 0 < zs2.length → Option.isSome (subBase A 8 c 1) = true := fun h => part_some (hA1 (by omega)) _ _ _
  refine RunU.ev [1, 4, 5, 6, 42, 44, 45] [(1, .slice A xs.length c), (4, .slice none 0 0), (5, .int .u64 (bits2 .or .u64 (bits2 .or .u64 (ns.getD 0 0) (IntKind.wrap .u64 ((ns.getD 1 0) * 2 ^ 26))) (IntKind.wrap .u64 ((ns.getD 2 0) * 2 ^ 52)))), (6, .int .u64 (bits2 .or .u64 (bits2 .or .u64 ((ns.getD 2 0) / 2 ^ 12) (IntKind.wrap .u64 ((ns.getD 3 0) * 2 ^ 14))) (IntKind.wrap .u64 ((ns.getD 4 0) * 2 ^ 40)))), (42, .slice A xs.length c), (44, .slice A xs.length c), (45, .slice (subBase A 8 c 1) (xs.length - 8) (c - 8))] ?_
  refine RunU.enveq [(1, .slice A xs.length c), (4, .slice none 0 0), (5, .int .u64 (bits2 .or .u64 (bits2 .or .u64 (ns.getD 0 0) (IntKind.wrap .u64 ((ns.getD 1 0) * 2 ^ 26))) (IntKind.wrap .u64 ((ns.getD 2 0) * 2 ^ 52)))), (6, .int .u64 (bits2 .or .u64 (bits2 .or .u64 ((ns.getD 2 0) / 2 ^ 12) (IntKind.wrap .u64 ((ns.getD 3 0) * 2 ^ 14))) (IntKind.wrap .u64 ((ns.getD 4 0) * 2 ^ 40)))), (42, .slice A xs.length c), (44, .slice A xs.length c), (45, .slice (subBase A 8 c 1) zs2.length (c - 8))] (by rw [hl4]) ?_
  have hr8 : In .u8 zs2 := by rw [hz3]; exact (hx.drop _).take _
  refine RunU.on (some 43) (.call { callee := .value (.func 59), args := #[.tmp 42], argTypes := #[24] }) 1 (bm 7 15) [] (Step.cl 59 [.slice A xs.length c] [] [vw A (nums .u8 xs)] [blk b 113 (nums .u64 ns), vw A (nums .u8 xs)] (w_Get64_spec A c xs xs.length hx (by first | assumption | omega | (simp only [List.length_append, List.length_cons, List.length_nil, List.length_set, List.length_replicate, List.length_take, List.length_drop]; omega) | (simp only [fits] at *; omega) | (simp only [List.length_append, List.length_cons, List.length_nil, List.length_set, List.length_replicate, List.length_take, List.length_drop] at *; omega) | (simp; done) | decide) (by first | rfl | assumption | omega | (simp only [List.length_append, List.length_cons, List.length_nil, List.length_set, List.length_replicate, List.length_take, List.length_drop]; omega) | (simp; done))) [] ((Lend.nil _).tells 1 (vw A (nums .u8 xs)) A (nums .u8 xs) (by kernel_rfl) (tells_vw _ _)) ?_)
  rintro _ _ ⟨rfl, rfl⟩
  refine orL ?_
  refine RunU.on (some 46) (.call { callee := .value (.func 59), args := #[.tmp 45], argTypes := #[24] }) 4 (bm 7 31) [] (Step.cl 59 [.slice (subBase A 8 c 1) zs2.length (c - 8)] [] [vw (subBase A 8 c 1) (nums .u8 zs2)] [blk b 113 (nums .u64 ns), vw A (nums .u8 xs)] (w_Get64_spec (subBase A 8 c 1) (c - 8) zs2 zs2.length hr8 (by first | assumption | omega | (simp only [List.length_append, List.length_cons, List.length_nil, List.length_set, List.length_replicate, List.length_take, List.length_drop]; omega) | (simp only [fits] at *; omega) | (simp only [List.length_append, List.length_cons, List.length_nil, List.length_set, List.length_replicate, List.length_take, List.length_drop] at *; omega) | (simp; done) | decide) (by first | rfl | assumption | omega | (simp only [List.length_append, List.length_cons, List.length_nil, List.length_set, List.length_replicate, List.length_take, List.length_drop]; omega) | (simp; done))) [] ((Lend.nil _).tells 1 (vw A (nums .u8 xs)) (subBase A 8 c 1) (nums .u8 zs2) (by kernel_rfl) (hB6_t)) ?_)
  rintro _ _ ⟨rfl, rfl⟩
  refine orL ?_
  refine RunU.sl hU 5 (bm 7 63) 7 (.int .u64 (leN xs 8)) ?_
  refine RunU.sl hU 6 (bm 7 127) 8 (.int .u64 (leN zs2 8)) ?_
  refine RunU.ev [4, 5, 6, 7, 8] [(4, .slice none 0 0), (5, .int .u64 (bits2 .or .u64 (bits2 .or .u64 (ns.getD 0 0) (IntKind.wrap .u64 ((ns.getD 1 0) * 2 ^ 26))) (IntKind.wrap .u64 ((ns.getD 2 0) * 2 ^ 52)))), (6, .int .u64 (bits2 .or .u64 (bits2 .or .u64 ((ns.getD 2 0) / 2 ^ 12) (IntKind.wrap .u64 ((ns.getD 3 0) * 2 ^ 14))) (IntKind.wrap .u64 ((ns.getD 4 0) * 2 ^ 40)))), (7, .int .u64 (leN xs 8)), (8, .int .u64 (leN zs2 8))] ?_
  refine RunU.dn ?_
  refine kseq_n ?_
  refine RunC.sr ?_
  refine RunR.sl hU [] 4 4 [4, 5, 6, 7, 8] [(4, .slice none 0 0), (5, .int .u64 (IntKind.wrap .u64 ((bits2 .or .u64 (bits2 .or .u64 (ns.getD 0 0) (IntKind.wrap .u64 ((ns.getD 1 0) * 2 ^ 26))) (IntKind.wrap .u64 ((ns.getD 2 0) * 2 ^ 52))) + (leN xs 8)))), (6, .int .u64 (bits2 .or .u64 (bits2 .or .u64 ((ns.getD 2 0) / 2 ^ 12) (IntKind.wrap .u64 ((ns.getD 3 0) * 2 ^ 14))) (IntKind.wrap .u64 ((ns.getD 4 0) * 2 ^ 40)))), (7, .int .u64 (leN xs 8)), (8, .int .u64 (leN zs2 8))] 4 ?_
  refine RunR.nx ?_
  refine RunR.sl hU [] 4 4 [4, 5, 6, 7] [(4, .slice none 0 0), (5, .int .u64 (IntKind.wrap .u64 ((bits2 .or .u64 (bits2 .or .u64 (ns.getD 0 0) (IntKind.wrap .u64 ((ns.getD 1 0) * 2 ^ 26))) (IntKind.wrap .u64 ((ns.getD 2 0) * 2 ^ 52))) + (leN xs 8)))), (6, .int .u64 (IntKind.wrap .u64 ((bits2 .or .u64 (bits2 .or .u64 ((ns.getD 2 0) / 2 ^ 12) (IntKind.wrap .u64 ((ns.getD 3 0) * 2 ^ 14))) (IntKind.wrap .u64 ((ns.getD 4 0) * 2 ^ 40))) + (leN zs2 8)))), (7, .int .u64 (leN xs 8))] 4 ?_
  refine RunR.nn ?_
  refine RunC.seq ?_
  refine RunC.sr ?_
  refine RunR.sl hU [] 3 3 [4, 5, 6, 55] [(4, .slice none 0 0), (5, .int .u64 (IntKind.wrap .u64 ((bits2 .or .u64 (bits2 .or .u64 (ns.getD 0 0) (IntKind.wrap .u64 ((ns.getD 1 0) * 2 ^ 26))) (IntKind.wrap .u64 ((ns.getD 2 0) * 2 ^ 52))) + (leN xs 8)))), (6, .int .u64 (IntKind.wrap .u64 ((bits2 .or .u64 (bits2 .or .u64 ((ns.getD 2 0) / 2 ^ 12) (IntKind.wrap .u64 ((ns.getD 3 0) * 2 ^ 14))) (IntKind.wrap .u64 ((ns.getD 4 0) * 2 ^ 40))) + (leN zs2 8)))), (55, .bool (decide ((IntKind.wrap .u64 ((bits2 .or .u64 (bits2 .or .u64 (ns.getD 0 0) (IntKind.wrap .u64 ((ns.getD 1 0) * 2 ^ 26))) (IntKind.wrap .u64 ((ns.getD 2 0) * 2 ^ 52))) + (leN xs 8))) < (leN xs 8))))] 3 ?_
  refine RunR.nn ?_
  refine RunC.condp ((IntKind.wrap .u64 ((bits2 .or .u64 (bits2 .or .u64 (ns.getD 0 0) (IntKind.wrap .u64 ((ns.getD 1 0) * 2 ^ 26))) (IntKind.wrap .u64 ((ns.getD 2 0) * 2 ^ 52))) + (leN xs 8))) < (leN xs 8)) (by kernel_rfl) (fun h9 => ?_) (fun h9 => ?_)
  · skip
    refine RunC.region ?_
    refine RunR.sl hU [] 3 3 [4, 5, 6] [(4, .slice none 0 0), (5, .int .u64 (IntKind.wrap .u64 ((bits2 .or .u64 (bits2 .or .u64 (ns.getD 0 0) (IntKind.wrap .u64 ((ns.getD 1 0) * 2 ^ 26))) (IntKind.wrap .u64 ((ns.getD 2 0) * 2 ^ 52))) + (leN xs 8)))), (6, .int .u64 (IntKind.wrap .u64 ((IntKind.wrap .u64 ((bits2 .or .u64 (bits2 .or .u64 ((ns.getD 2 0) / 2 ^ 12) (IntKind.wrap .u64 ((ns.getD 3 0) * 2 ^ 14))) (IntKind.wrap .u64 ((ns.getD 4 0) * 2 ^ 40))) + (leN zs2 8))) + 1)))] 3 ?_
    refine RunR.nx ?_
    refine RunR.sl hU [] 1 1 [4, 6, 58] [(4, .slice none 0 0), (6, .int .u64 (IntKind.wrap .u64 ((IntKind.wrap .u64 ((bits2 .or .u64 (bits2 .or .u64 ((ns.getD 2 0) / 2 ^ 12) (IntKind.wrap .u64 ((ns.getD 3 0) * 2 ^ 14))) (IntKind.wrap .u64 ((ns.getD 4 0) * 2 ^ 40))) + (leN zs2 8))) + 1))), (58, .int .u64 (IntKind.wrap .u64 ((bits2 .or .u64 (bits2 .or .u64 (ns.getD 0 0) (IntKind.wrap .u64 ((ns.getD 1 0) * 2 ^ 26))) (IntKind.wrap .u64 ((ns.getD 2 0) * 2 ^ 52))) + (leN xs 8))))] 1 ?_
    refine RunR.st (some 59) (.call { callee := .value (.func 44), args := #[.tmp 58], argTypes := #[73] }) (Step.cn 44 [.int .u64 (IntKind.wrap .u64 ((bits2 .or .u64 (bits2 .or .u64 (ns.getD 0 0) (IntKind.wrap .u64 ((ns.getD 1 0) * 2 ^ 26))) (IntKind.wrap .u64 ((ns.getD 2 0) * 2 ^ 52))) + (leN xs 8)))] [] [blk b 113 (nums .u64 ns), vw A (nums .u8 xs)] (w_Put64_spec (IntKind.wrap .u64 ((bits2 .or .u64 (bits2 .or .u64 (ns.getD 0 0) (IntKind.wrap .u64 ((ns.getD 1 0) * 2 ^ 26))) (IntKind.wrap .u64 ((ns.getD 2 0) * 2 ^ 52))) + (leN xs 8))) (by first | assumption | exact fits_wrap _ _ | exact fits_bits2 _ _ _ _ | (refine ⟨?_, ?_⟩ <;> omega))) [] ?_)
    rintro _ _ ⟨Aq10, cq11, zs12, rfl, rfl, hp13, hp14, hp15, hp16, hp17⟩
    refine RunR.sl hU [] 1 3 [4, 59, 60] [(4, .slice none 0 0), (59, .slice Aq10 zs12.length cq11), (60, .int .u64 (IntKind.wrap .u64 ((IntKind.wrap .u64 ((bits2 .or .u64 (bits2 .or .u64 ((ns.getD 2 0) / 2 ^ 12) (IntKind.wrap .u64 ((ns.getD 3 0) * 2 ^ 14))) (IntKind.wrap .u64 ((ns.getD 4 0) * 2 ^ 40))) + (leN zs2 8))) + 1)))] 1 ?_
    refine RunR.st (some 61) (.call { callee := .value (.func 44), args := #[.tmp 60], argTypes := #[73] }) (Step.cn 44 [.int .u64 (IntKind.wrap .u64 ((IntKind.wrap .u64 ((bits2 .or .u64 (bits2 .or .u64 ((ns.getD 2 0) / 2 ^ 12) (IntKind.wrap .u64 ((ns.getD 3 0) * 2 ^ 14))) (IntKind.wrap .u64 ((ns.getD 4 0) * 2 ^ 40))) + (leN zs2 8))) + 1))] [] [row 5 1 (.slice Aq10 zs12.length cq11) zs12.length (nums .u8 zs12), blk b 113 (nums .u64 ns), vw A (nums .u8 xs)] (w_Put64_spec (IntKind.wrap .u64 ((IntKind.wrap .u64 ((bits2 .or .u64 (bits2 .or .u64 ((ns.getD 2 0) / 2 ^ 12) (IntKind.wrap .u64 ((ns.getD 3 0) * 2 ^ 14))) (IntKind.wrap .u64 ((ns.getD 4 0) * 2 ^ 40))) + (leN zs2 8))) + 1)) (by first | assumption | exact fits_wrap _ _ | exact fits_bits2 _ _ _ _ | (refine ⟨?_, ?_⟩ <;> omega))) [] ?_)
    rintro _ _ ⟨Aq18, cq19, zs20, rfl, rfl, hp21, hp22, hp23, hp24, hp25⟩
    refine RunR.st (some 62) (.call { callee := .builtin .append, args := #[.tmp 59, .tmp 61], argTypes := #[24, 24] }) (Step.append_nums hU 5 1 (.int .u8 0) .u8 1 0 Aq10 zs12.length cq11 zs12 Aq18 zs20.length cq19 (row 5 1 (.slice Aq18 zs20.length cq19) zs20.length (nums .u8 zs20)) zs20 rfl rfl rfl (by kernel_rfl) (by kernel_rfl) (by kernel_rfl) (by kernel_rfl) (tells_row _ _ _ _ _ _) (by first | rfl | omega | (simp; omega)) (by first | rfl | omega | (simp; omega)) (by omega) (by omega) (by kernel_rfl) (fun Aq26 cq27 hc28 hA29 => ?_))
    have hl30 : (zs12 ++ zs20).length = zs12.length + zs20.length := List.length_append
    refine RunR.sl hU [] 1 6 [4] [(4, .slice Aq26 ((zs12 ++ zs20).length) cq27)] 1 ?_
    refine RunR.nn ?_
    refine RunC.ret ?_
    refine kret_r [.slice Aq26 ((zs12 ++ zs20).length) cq27] [2, 0] [blk b 113 (nums .u64 ns), row 5 1 (.slice Aq26 ((zs12 ++ zs20).length) cq27) ((zs12 ++ zs20).length) (nums .u8 (zs12 ++ zs20))] ⟨rfl, trivial⟩ (by kernel_rfl) rfl ⟨Aq26, cq27, (zs12 ++ zs20), rfl, rfl, (by simp only [hz3, hp13, hp21]; exact (tag_bytes hP hx).1 (by assumption)), (by simp only [hz3, hp13, hp21]; exact (leB_in _ _).append (leB_in _ _)), (by assumption), (by assumption)⟩
  · skip
    refine RunC.ksr ?_
    refine RunR.sl hU [] 1 1 [4, 6, 58] [(4, .slice none 0 0), (6, .int .u64 (IntKind.wrap .u64 ((bits2 .or .u64 (bits2 .or .u64 ((ns.getD 2 0) / 2 ^ 12) (IntKind.wrap .u64 ((ns.getD 3 0) * 2 ^ 14))) (IntKind.wrap .u64 ((ns.getD 4 0) * 2 ^ 40))) + (leN zs2 8)))), (58, .int .u64 (IntKind.wrap .u64 ((bits2 .or .u64 (bits2 .or .u64 (ns.getD 0 0) (IntKind.wrap .u64 ((ns.getD 1 0) * 2 ^ 26))) (IntKind.wrap .u64 ((ns.getD 2 0) * 2 ^ 52))) + (leN xs 8))))] 1 ?_
    refine RunR.st (some 59) (.call { callee := .value (.func 44), args := #[.tmp 58], argTypes := #[73] }) (Step.cn 44 [.int .u64 (IntKind.wrap .u64 ((bits2 .or .u64 (bits2 .or .u64 (ns.getD 0 0) (IntKind.wrap .u64 ((ns.getD 1 0) * 2 ^ 26))) (IntKind.wrap .u64 ((ns.getD 2 0) * 2 ^ 52))) + (leN xs 8)))] [] [blk b 113 (nums .u64 ns), vw A (nums .u8 xs)] (w_Put64_spec (IntKind.wrap .u64 ((bits2 .or .u64 (bits2 .or .u64 (ns.getD 0 0) (IntKind.wrap .u64 ((ns.getD 1 0) * 2 ^ 26))) (IntKind.wrap .u64 ((ns.getD 2 0) * 2 ^ 52))) + (leN xs 8))) (by first | assumption | exact fits_wrap _ _ | exact fits_bits2 _ _ _ _ | (refine ⟨?_, ?_⟩ <;> omega))) [] ?_)
    rintro _ _ ⟨Aq31, cq32, zs33, rfl, rfl, hp34, hp35, hp36, hp37, hp38⟩
    refine RunR.sl hU [] 1 3 [4, 59, 60] [(4, .slice none 0 0), (59, .slice Aq31 zs33.length cq32), (60, .int .u64 (IntKind.wrap .u64 ((bits2 .or .u64 (bits2 .or .u64 ((ns.getD 2 0) / 2 ^ 12) (IntKind.wrap .u64 ((ns.getD 3 0) * 2 ^ 14))) (IntKind.wrap .u64 ((ns.getD 4 0) * 2 ^ 40))) + (leN zs2 8))))] 1 ?_
    refine RunR.st (some 61) (.call { callee := .value (.func 44), args := #[.tmp 60], argTypes := #[73] }) (Step.cn 44 [.int .u64 (IntKind.wrap .u64 ((bits2 .or .u64 (bits2 .or .u64 ((ns.getD 2 0) / 2 ^ 12) (IntKind.wrap .u64 ((ns.getD 3 0) * 2 ^ 14))) (IntKind.wrap .u64 ((ns.getD 4 0) * 2 ^ 40))) + (leN zs2 8)))] [] [row 5 1 (.slice Aq31 zs33.length cq32) zs33.length (nums .u8 zs33), blk b 113 (nums .u64 ns), vw A (nums .u8 xs)] (w_Put64_spec (IntKind.wrap .u64 ((bits2 .or .u64 (bits2 .or .u64 ((ns.getD 2 0) / 2 ^ 12) (IntKind.wrap .u64 ((ns.getD 3 0) * 2 ^ 14))) (IntKind.wrap .u64 ((ns.getD 4 0) * 2 ^ 40))) + (leN zs2 8))) (by first | assumption | exact fits_wrap _ _ | exact fits_bits2 _ _ _ _ | (refine ⟨?_, ?_⟩ <;> omega))) [] ?_)
    rintro _ _ ⟨Aq39, cq40, zs41, rfl, rfl, hp42, hp43, hp44, hp45, hp46⟩
    refine RunR.st (some 62) (.call { callee := .builtin .append, args := #[.tmp 59, .tmp 61], argTypes := #[24, 24] }) (Step.append_nums hU 5 1 (.int .u8 0) .u8 1 0 Aq31 zs33.length cq32 zs33 Aq39 zs41.length cq40 (row 5 1 (.slice Aq39 zs41.length cq40) zs41.length (nums .u8 zs41)) zs41 rfl rfl rfl (by kernel_rfl) (by kernel_rfl) (by kernel_rfl) (by kernel_rfl) (tells_row _ _ _ _ _ _) (by first | rfl | omega | (simp; omega)) (by first | rfl | omega | (simp; omega)) (by omega) (by omega) (by kernel_rfl) (fun Aq47 cq48 hc49 hA50 => ?_))
    have hl51 : (zs33 ++ zs41).length = zs33.length + zs41.length := List.length_append
    refine RunR.sl hU [] 1 6 [4] [(4, .slice Aq47 ((zs33 ++ zs41).length) cq48)] 1 ?_
    refine RunR.nn ?_
    refine RunC.ret ?_
    refine kret_r [.slice Aq47 ((zs33 ++ zs41).length) cq48] [2, 0] [blk b 113 (nums .u64 ns), row 5 1 (.slice Aq47 ((zs33 ++ zs41).length) cq48) ((zs33 ++ zs41).length) (nums .u8 (zs33 ++ zs41))] ⟨rfl, trivial⟩ (by kernel_rfl) rfl ⟨Aq47, cq48, (zs33 ++ zs41), rfl, rfl, (by simp only [hz3, hp34, hp42]; exact (tag_bytes hP hx).2 (by assumption)), (by simp only [hz3, hp34, hp42]; exact (leB_in _ _).append (leB_in _ _)), (by assumption), (by assumption)⟩
end Go.Proofs.Ytkehpipialmneaa.X8
