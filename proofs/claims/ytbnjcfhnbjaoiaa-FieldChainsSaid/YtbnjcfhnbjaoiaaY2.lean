/- What these functions compute: a contract for each, walked through its code. -/
import Derived.Test.YtbnjcfhnbjaoiaaEPure
import Derived.Test.YtbnjcfhnbjaoiaaProg
import Derived.Test.YtbnjcfhnbjaoiaaX1
import Derived.Test.YtbnjcfhnbjaoiaaX2
import Derived.Test.YtbnjcfhnbjaoiaaX3
import Derived.Test.YtbnjcfhnbjaoiaaX4
import Derived.Test.YtbnjcfhnbjaoiaaX5
import Derived.Test.YtbnjcfhnbjaoiaaX6
import Derived.Test.YtbnjcfhnbjaoiaaX7
import Derived.Test.YtbnjcfhnbjaoiaaX8
import Derived.Test.YtbnjcfhnbjaoiaaX9
import Derived.Test.YtbnjcfhnbjaoiaaY1
namespace Go.Proofs.Ytbnjcfhnbjaoiaa.Y2
open Go Go.Proofs.Ytbnjcfhnbjaoiaa.SL Go.Proofs.Ytbnjcfhnbjaoiaa.SL.W Go.Proofs.Ytbnjcfhnbjaoiaa.SL.F Go.Proofs.Ytbnjcfhnbjaoiaa.SL.N Go.Proofs.Ytbnjcfhnbjaoiaa.SL.E Go.Proofs.Ytbnjcfhnbjaoiaa.X1 Go.Proofs.Ytbnjcfhnbjaoiaa.X2 Go.Proofs.Ytbnjcfhnbjaoiaa.X3 Go.Proofs.Ytbnjcfhnbjaoiaa.X4 Go.Proofs.Ytbnjcfhnbjaoiaa.X5 Go.Proofs.Ytbnjcfhnbjaoiaa.X6 Go.Proofs.Ytbnjcfhnbjaoiaa.X7 Go.Proofs.Ytbnjcfhnbjaoiaa.X8 Go.Proofs.Ytbnjcfhnbjaoiaa.X9 Go.Proofs.Ytbnjcfhnbjaoiaa.Y1
set_option linter.unusedVariables false
set_option linter.unusedSimpArgs false
set_option maxRecDepth 100000
set_option maxHeartbeats 40000000
def U : Tab where
  und := [(3, .int .i64), (30, .array 32 3), (31, .array 32 3), (49, .int .u32), (85, .int .u64)]
  fld := []
  sz := [(3, 1), (30, 32), (31, 32), (49, 1), (85, 1)]
  ti := [(3, (1, 8, .int .i64 0)), (30, (32, 256, .agg #[.int .i64 0, .int .i64 0, .int .i64 0, .int .i64 0, .int .i64 0, .int .i64 0, .int .i64 0, .int .i64 0, .int .i64 0, .int .i64 0, .int .i64 0, .int .i64 0, .int .i64 0, .int .i64 0, .int .i64 0, .int .i64 0, .int .i64 0, .int .i64 0, .int .i64 0, .int .i64 0, .int .i64 0, .int .i64 0, .int .i64 0, .int .i64 0, .int .i64 0, .int .i64 0, .int .i64 0, .int .i64 0, .int .i64 0, .int .i64 0, .int .i64 0, .int .i64 0])), (31, (32, 256, .agg #[.int .i64 0, .int .i64 0, .int .i64 0, .int .i64 0, .int .i64 0, .int .i64 0, .int .i64 0, .int .i64 0, .int .i64 0, .int .i64 0, .int .i64 0, .int .i64 0, .int .i64 0, .int .i64 0, .int .i64 0, .int .i64 0, .int .i64 0, .int .i64 0, .int .i64 0, .int .i64 0, .int .i64 0, .int .i64 0, .int .i64 0, .int .i64 0, .int .i64 0, .int .i64 0, .int .i64 0, .int .i64 0, .int .i64 0, .int .i64 0, .int .i64 0, .int .i64 0])), (49, (1, 4, .int .u32 0)), (85, (1, 8, .int .u64 0))]
  bld := []

theorem hU : U.OK Try.prog where
  und := by
    intro p hp
    simp only [U, List.mem_cons, List.not_mem_nil, or_false] at hp
    rcases hp with rfl | rfl | rfl | rfl | rfl
    · exact Try.underlying3
    · exact Try.underlying30
    · exact Try.underlying31
    · exact Try.underlying49
    · exact Try.underlying85
  fld := by
    intro p hp; cases hp
  sz := by
    intro p hp
    simp only [U, List.mem_cons, List.not_mem_nil, or_false] at hp
    rcases hp with rfl | rfl | rfl | rfl | rfl
    · exact ⟨Try.prog.types[3]!, by kernel_rfl, by kernel_rfl⟩
    · exact ⟨Try.prog.types[30]!, by kernel_rfl, by kernel_rfl⟩
    · exact ⟨Try.prog.types[31]!, by kernel_rfl, by kernel_rfl⟩
    · exact ⟨Try.prog.types[49]!, by kernel_rfl, by kernel_rfl⟩
    · exact ⟨Try.prog.types[85]!, by kernel_rfl, by kernel_rfl⟩
  ti := by
    intro p hp
    simp only [U, List.mem_cons, List.not_mem_nil, or_false] at hp
    rcases hp with rfl | rfl | rfl | rfl | rfl
    · exact ⟨Try.prog.types[3]!, by kernel_rfl, by kernel_rfl, by kernel_rfl, by kernel_rfl⟩
    · exact ⟨Try.prog.types[30]!, by kernel_rfl, by kernel_rfl, by kernel_rfl, by kernel_rfl⟩
    · exact ⟨Try.prog.types[31]!, by kernel_rfl, by kernel_rfl, by kernel_rfl, by kernel_rfl⟩
    · exact ⟨Try.prog.types[49]!, by kernel_rfl, by kernel_rfl, by kernel_rfl, by kernel_rfl⟩
    · exact ⟨Try.prog.types[85]!, by kernel_rfl, by kernel_rfl, by kernel_rfl, by kernel_rfl⟩
  bld := by
    intro p hp; cases hp
  mixed := by kernel_rfl

theorem n_prime_spec  :
    CallsS Try.prog 54 [] [] (fun r D => ∃ (zs : List Int), r = .agg (nums .i64 zs).toArray ∧ D = [] ∧ (Dg zs (P)) ∧ (zs.length = 32)) := by
  refine CallsS.enter hU Try.f54 _ [.cell 0 31] 12 Try.func54 rfl (by decide) rfl rfl (by kernel_rfl) fun w0 W => ?_
  refine RunC.seq ?_
  refine RunC.region ?_
  refine RunR.step (dst := some 0) (op := .alloc 31) (by kernel_rfl) (Step.alloc hU 32 256 (.agg #[.int .i64 0, .int .i64 0, .int .i64 0, .int .i64 0, .int .i64 0, .int .i64 0, .int .i64 0, .int .i64 0, .int .i64 0, .int .i64 0, .int .i64 0, .int .i64 0, .int .i64 0, .int .i64 0, .int .i64 0, .int .i64 0, .int .i64 0, .int .i64 0, .int .i64 0, .int .i64 0, .int .i64 0, .int .i64 0, .int .i64 0, .int .i64 0, .int .i64 0, .int .i64 0, .int .i64 0, .int .i64 0, .int .i64 0, .int .i64 0, .int .i64 0, .int .i64 0]) rfl (by kernel_rfl) (fun b1 => ?_))
  have hl2 : (List.replicate 32 (0 : Int)).length = 32 := List.length_replicate
  refine RunR.done (by kernel_rfl) ?_
  refine kseq_n ?_
  refine RunC.seq ?_
  refine RunC.region ?_
  refine RunR.step (dst := some 1) (op := .alloc 31) (by kernel_rfl) (Step.alloc hU 32 256 (.agg #[.int .i64 0, .int .i64 0, .int .i64 0, .int .i64 0, .int .i64 0, .int .i64 0, .int .i64 0, .int .i64 0, .int .i64 0, .int .i64 0, .int .i64 0, .int .i64 0, .int .i64 0, .int .i64 0, .int .i64 0, .int .i64 0, .int .i64 0, .int .i64 0, .int .i64 0, .int .i64 0, .int .i64 0, .int .i64 0, .int .i64 0, .int .i64 0, .int .i64 0, .int .i64 0, .int .i64 0, .int .i64 0, .int .i64 0, .int .i64 0, .int .i64 0, .int .i64 0]) rfl (by kernel_rfl) (fun b3 => ?_))
  have hl4 : (List.replicate 32 (0 : Int)).length = 32 := List.length_replicate
  refine RunR.done (by kernel_rfl) ?_
  refine kseq_n ?_
  refine RunC.seq ?_
  refine RunC.seq ?_
  refine RunC.region ?_
  refine RunR.sil hU [] 1 1 [0, 1, 2] [(0, .pointer (some ⟨b1, 0, none⟩)), (1, .pointer (some ⟨b3, 0, none⟩)), (2, .int .i64 0)] ((True) ∧ True) rfl (by kernel_rfl) ⟨trivial, trivial⟩ ?_
  refine RunR.done (by kernel_rfl) ?_
  refine kseq_n ?_
  refine RunC.block ?_
  refine RunC.env [0, 1, 2] [(0, .pointer (some ⟨b1, 0, none⟩)), (1, .pointer (some ⟨b3, 0, none⟩)), (2, .int .i64 0)] (by kernel_rfl) ?_
  refine RunC.only [0, 0] [blk b3 31 (nums .i64 (List.replicate 32 (0 : Int))), blk b1 31 (nums .i64 (List.replicate 32 (0 : Int)))] (by kernel_rfl) ?_
  refine RunC.loop (σ := Nat) (fun n_ t_ D_ => ∃ (i : Int) (os : List Int), (0 ≤ i) ∧ (i ≤ 32) ∧ (os = mapP (fun _ => 255) (List.replicate 32 0) i.toNat) ∧ (os.length = 32) ∧ n_ = ((32 - i).toNat : Nat) ∧ t_ = [(0, .pointer (some ⟨b1, 0, none⟩)), (1, .pointer (some ⟨b3, 0, none⟩)), (2, .int .i64 i)] ∧ D_ = [blk b3 31 (nums .i64 os), blk b1 31 (nums .i64 (List.replicate 32 (0 : Int)))]) id _ ⟨0, (List.replicate 32 (0 : Int)), (by first | assumption | omega | (simp only [List.length_append, List.length_cons, List.length_nil, List.length_set, List.length_replicate, List.length_take, List.length_drop]; omega) | (simp only [fits] at *; omega) | (simp only [List.length_append, List.length_cons, List.length_nil, List.length_set, List.length_replicate, List.length_take, List.length_drop] at *; omega) | (simp; done) | decide), (by first | assumption | omega | (simp only [List.length_append, List.length_cons, List.length_nil, List.length_set, List.length_replicate, List.length_take, List.length_drop]; omega) | (simp only [fits] at *; omega) | (simp only [List.length_append, List.length_cons, List.length_nil, List.length_set, List.length_replicate, List.length_take, List.length_drop] at *; omega) | (simp; done) | decide), (by rfl), (by rfl), rfl, rfl, rfl⟩ ?_
  rintro n_ _ _ ⟨i, os, hi, hi2, ho, hol, rfl, rfl, rfl⟩
  refine RunC.seq ?_
  refine RunC.seq ?_
  refine RunC.region ?_
  refine RunR.sil hU [] 2 2 [0, 1, 2, 4] [(0, .pointer (some ⟨b1, 0, none⟩)), (1, .pointer (some ⟨b3, 0, none⟩)), (2, .int .i64 i), (4, .bool (decide (i < 32)))] ((True) ∧ (True) ∧ True) rfl (by kernel_rfl) ⟨trivial, trivial, trivial⟩ ?_
  refine RunR.done (by kernel_rfl) ?_
  refine kseq_n ?_
  refine RunC.condp (i < 32) (by kernel_rfl) (fun h5 => ?_) (fun h5 => ?_)
  · skip
    refine RunC.skip ?_
    refine kseq_n ?_
    refine RunC.seq ?_
    refine RunC.block ?_
    refine RunC.region ?_
    refine RunR.sil hU [] 2 2 [0, 1, 2, 8] [(0, .pointer (some ⟨b1, 0, none⟩)), (1, .pointer (some ⟨b3, 0, none⟩)), (2, .int .i64 i), (8, .pointer (some ⟨b3, 0 + (i).toNat * 1, none⟩))] ((True) ∧ (0 ≤ i ∧ i < ((32 : Nat) : Int)) ∧ True) rfl (by kernel_rfl) ⟨trivial, (by omega), trivial⟩ ?_
    refine RunR.step (dst := none) (op := .store 3 (.tmp 8) (.const (.int .i64 255))) (by kernel_rfl) (Step.store_blknum hU 0 b3 (0 + (i).toNat * 1) 31 ((i).toNat) .i64 os 255 (by kernel_rfl) (by kernel_rfl) (by kernel_rfl) rfl (by omega) (by first | omega | (simp only [List.length_cons, List.length_nil]; omega)) ?_)
    have hl6 : (os.set ((i).toNat) 255).length = os.length := List.length_set
    refine RunR.done (by kernel_rfl) ?_
    refine kblock_n ?_
    refine kseq_n ?_
    refine RunC.region ?_
    refine RunR.sil hU [1] 3 3 [0, 1, 2] [(0, .pointer (some ⟨b1, 0, none⟩)), (1, .pointer (some ⟨b3, 0, none⟩)), (2, .int .i64 (i + 1))] ((True) ∧ (-9223372036854775808 ≤ (i + 1) ∧ (i + 1) < 9223372036854775808) ∧ (True) ∧ True) rfl (by kernel_rfl) ⟨trivial, (by omega), trivial, trivial⟩ ?_
    refine RunR.done (by kernel_rfl) ?_
    refine kloop_n _ [0, 1, 2] [0, 0] [(0, .pointer (some ⟨b1, 0, none⟩)), (1, .pointer (some ⟨b3, 0, none⟩)), (2, .int .i64 (i + 1))] [blk b3 31 (nums .i64 (os.set ((i).toNat) 255)), blk b1 31 (nums .i64 (List.replicate 32 (0 : Int)))] (by kernel_rfl) (by kernel_rfl) ?_ ⟨(i + 1), (os.set ((i).toNat) 255), (by first | assumption | omega | (simp only [List.length_append, List.length_cons, List.length_nil, List.length_set, List.length_replicate, List.length_take, List.length_drop]; omega) | (simp only [fits] at *; omega) | (simp only [List.length_append, List.length_cons, List.length_nil, List.length_set, List.length_replicate, List.length_take, List.length_drop] at *; omega) | (simp; done) | decide), (by first | assumption | omega | (simp only [List.length_append, List.length_cons, List.length_nil, List.length_set, List.length_replicate, List.length_take, List.length_drop]; omega) | (simp only [fits] at *; omega) | (simp only [List.length_append, List.length_cons, List.length_nil, List.length_set, List.length_replicate, List.length_take, List.length_drop] at *; omega) | (simp; done) | decide), (by rw [ho]; exact prime_step (by omega) (by omega)), (by rw [List.length_set]; exact hol), rfl, (by first | rfl | simp only [List.length_set]), (by first | rfl | simp only [List.length_set])⟩
    show ((32 - (i + 1)).toNat : Nat) < ((32 - i).toNat : Nat)
    omega
  · skip
    refine RunC.exit ?_
    refine kseq_e ?_
    refine kloop_e ?_
    refine kblock_e ?_
    refine kseq_n ?_
    refine RunC.seq ?_
    refine RunC.region ?_
    refine RunR.sil hU [] 1 1 [0, 1, 9] [(0, .pointer (some ⟨b1, 0, none⟩)), (1, .pointer (some ⟨b3, 0, none⟩)), (9, .pointer (some ⟨b3, 0, none⟩))] ((0 ≤ (0 : Int) ∧ (0 : Int) < ((32 : Nat) : Int)) ∧ True) rfl (by kernel_rfl) ⟨(by omega), trivial⟩ ?_
    refine RunR.step (dst := none) (op := .store 3 (.tmp 9) (.const (.int .i64 237))) (by kernel_rfl) (Step.store_blknum hU 0 b3 (0) 31 0 .i64 os 237 (by kernel_rfl) (by kernel_rfl) (by kernel_rfl) rfl (by omega) (by first | omega | (simp only [List.length_cons, List.length_nil]; omega)) ?_)
    have hl7 : (os.set 0 237).length = os.length := List.length_set
    refine RunR.done (by kernel_rfl) ?_
    refine kseq_n ?_
    refine RunC.seq ?_
    refine RunC.region ?_
    refine RunR.sil hU [] 1 1 [0, 1, 10] [(0, .pointer (some ⟨b1, 0, none⟩)), (1, .pointer (some ⟨b3, 0, none⟩)), (10, .pointer (some ⟨b3, 31, none⟩))] ((0 ≤ (31 : Int) ∧ (31 : Int) < ((32 : Nat) : Int)) ∧ True) rfl (by kernel_rfl) ⟨(by omega), trivial⟩ ?_
    refine RunR.step (dst := none) (op := .store 3 (.tmp 10) (.const (.int .i64 127))) (by kernel_rfl) (Step.store_blknum hU 0 b3 (31) 31 31 .i64 (os.set 0 237) 127 (by kernel_rfl) (by kernel_rfl) (by kernel_rfl) rfl (by omega) (by first | omega | (simp only [List.length_cons, List.length_nil]; omega)) ?_)
    have hl8 : ((os.set 0 237).set 31 127).length = (os.set 0 237).length := List.length_set
    refine RunR.done (by kernel_rfl) ?_
    refine kseq_n ?_
    refine RunC.seq ?_
    refine RunC.region ?_
    refine RunR.step (dst := some 11) (op := .load 31 (.tmp 1)) (by kernel_rfl) (Step.load_arr hU 0 b3 31 32 .i64 ((os.set 0 237).set 31 127) (by kernel_rfl) (by kernel_rfl) (by kernel_rfl) (by kernel_rfl) (by first | rfl | omega | (simp; done)) (by kernel_rfl) ?_)
    refine RunR.step (dst := none) (op := .store 31 (.tmp 0) (.tmp 11)) (by kernel_rfl) (Step.store_arr hU 1 b1 31 32 .i64 (List.replicate 32 (0 : Int)) ((os.set 0 237).set 31 127) (by kernel_rfl) (by kernel_rfl) (by kernel_rfl) (by kernel_rfl) (by first | rfl | omega | (simp; done)) (by first | rfl | omega | (simp; done)) ?_)
    refine RunR.done (by kernel_rfl) ?_
    refine kseq_n ?_
    refine RunC.ret ?_
    refine kret_r [.agg (nums .i64 ((os.set 0 237).set 31 127)).toArray] [] [] ⟨⟨0, b1, 0, 31, nums .i64 ((os.set 0 237).set 31 127), rfl, rfl, (loadv_arr (U := U) (n := 32) (by kernel_rfl) (by kernel_rfl) (by first | rfl | omega | assumption | (simp; done)))⟩, trivial⟩ (by kernel_rfl) rfl ⟨((os.set 0 237).set 31 127), rfl, rfl, (by rw [ho, show i = 32 by omega]; exact primeL_dg), (by rw [List.length_set, List.length_set]; exact hol)⟩

theorem n_less_spec (xs : List Int) (x : Int) (ys : List Int) (y : Int) (hX : Dg xs x) (hlx : xs.length = 32) (hY : Dg ys y) (hly : ys.length = 32) :
    CallsS Try.prog 60 [.agg (nums .i64 xs).toArray, .agg (nums .i64 ys).toArray] [] (fun r D => r = .bool (decide (x < y)) ∧ D = []) := by
  refine CallsS.enter hU Try.f60 _ [.tmp 4] 24 Try.func60 rfl (by decide) rfl rfl (by kernel_rfl) fun w0 W => ?_
  refine RunC.seq ?_
  refine RunC.region ?_
  refine RunR.step (dst := some 2) (op := .box 31 (.tmp 0)) (by kernel_rfl) (Step.box (.agg (nums .i64 xs).toArray) (by kernel_rfl) (by kernel_rfl) (fun b1 => ?_))
  refine RunR.step (dst := some 3) (op := .box 31 (.tmp 1)) (by kernel_rfl) (Step.box (.agg (nums .i64 ys).toArray) (by kernel_rfl) (by kernel_rfl) (fun b2 => ?_))
  refine RunR.sil hU [] 1 3 [2, 3, 4] [(2, .pointer (some ⟨b1, 0, none⟩)), (3, .pointer (some ⟨b2, 0, none⟩)), (4, .bool false)] ((True) ∧ True) rfl (by kernel_rfl) ⟨trivial, trivial⟩ ?_
  refine RunR.done (by kernel_rfl) ?_
  refine kseq_n ?_
  refine RunC.seq ?_
  refine RunC.seq ?_
  refine RunC.region ?_
  refine RunR.sil hU [] 1 1 [2, 3, 4, 5] [(2, .pointer (some ⟨b1, 0, none⟩)), (3, .pointer (some ⟨b2, 0, none⟩)), (4, .bool false), (5, .int .i64 31)] ((True) ∧ True) rfl (by kernel_rfl) ⟨trivial, trivial⟩ ?_
  refine RunR.done (by kernel_rfl) ?_
  refine kseq_n ?_
  refine RunC.block ?_
  refine RunC.env [2, 3, 5] [(2, .pointer (some ⟨b1, 0, none⟩)), (3, .pointer (some ⟨b2, 0, none⟩)), (5, .int .i64 31)] (by kernel_rfl) ?_
  refine RunC.only [0, 0] [blk b2 31 (nums .i64 ys), blk b1 31 (nums .i64 xs)] (by kernel_rfl) ?_
  refine RunC.loop (σ := Nat) (fun n_ t_ D_ => ∃ (i : Int), (-1 ≤ i) ∧ (i ≤ 31) ∧ (xs.drop (i + 1).toNat = ys.drop (i + 1).toNat) ∧ (In .i64 xs) ∧ (In .i64 ys) ∧ n_ = ((i + 1).toNat : Nat) ∧ t_ = [(2, .pointer (some ⟨b1, 0, none⟩)), (3, .pointer (some ⟨b2, 0, none⟩)), (5, .int .i64 i)] ∧ D_ = [blk b2 31 (nums .i64 ys), blk b1 31 (nums .i64 xs)]) id _ ⟨31, (by first | assumption | omega | (simp only [List.length_append, List.length_cons, List.length_nil, List.length_set, List.length_replicate, List.length_take, List.length_drop]; omega) | (simp only [fits] at *; omega) | (simp only [List.length_append, List.length_cons, List.length_nil, List.length_set, List.length_replicate, List.length_take, List.length_drop] at *; omega) | (simp; done) | decide), (by first | assumption | omega | (simp only [List.length_append, List.length_cons, List.length_nil, List.length_set, List.length_replicate, List.length_take, List.length_drop]; omega) | (simp only [fits] at *; omega) | (simp only [List.length_append, List.length_cons, List.length_nil, List.length_set, List.length_replicate, List.length_take, List.length_drop] at *; omega) | (simp; done) | decide), (by rw [List.drop_of_length_le (by rw [hlx]; decide), List.drop_of_length_le (by rw [hly]; decide)]), (by exact hX.i64), (by exact hY.i64), rfl, rfl, rfl⟩ ?_
  rintro n_ _ _ ⟨i, hi, hi2, hd, hix, hiy, rfl, rfl, rfl⟩
  refine RunC.seq ?_
  refine RunC.seq ?_
  refine RunC.region ?_
  refine RunR.sil hU [] 2 2 [2, 3, 5, 7] [(2, .pointer (some ⟨b1, 0, none⟩)), (3, .pointer (some ⟨b2, 0, none⟩)), (5, .int .i64 i), (7, .bool (decide (i ≥ 0)))] ((True) ∧ (True) ∧ True) rfl (by kernel_rfl) ⟨trivial, trivial, trivial⟩ ?_
  refine RunR.done (by kernel_rfl) ?_
  refine kseq_n ?_
  refine RunC.condp (i ≥ 0) (by kernel_rfl) (fun h3 => ?_) (fun h3 => ?_)
  · skip
    refine RunC.skip ?_
    refine kseq_n ?_
    refine RunC.seq ?_
    refine RunC.block ?_
    refine RunC.seq ?_
    refine RunC.regionU hU 7 [blk b1 31 (nums .i64 xs), blk b2 31 (nums .i64 ys)] [1, 0] [] (bm 7 0) (by kernel_rfl) (by kernel_rfl) (by kernel_rfl) ?_
    refine RunU.sil hU false 0 (bm 7 1) 10 (.int .i64 i) (True) (by kernel_rfl) trivial (by kernel_rfl) (by kernel_rfl) (fun _ _ _ h => h) ?_
    refine RunU.sil hU false 1 (bm 7 3) 11 (.pointer (some ⟨b1, 0 + (i).toNat * 1, none⟩)) (0 ≤ i ∧ i < ((32 : Nat) : Int)) (by kernel_rfl) (by omega) (by kernel_rfl) (by kernel_rfl) (fun _ _ _ h => h) ?_
    refine RunU.read 2 (bm 7 7) 12 (.load 3 (.tmp 11)) (.int .i64 (xs.getD ((i).toNat) 0)) [1, 0] (by kernel_rfl) (Reads.load_blknum hU 0 b1 (0 + (i).toNat * 1) 31 ((i).toNat) .i64 xs rfl (by kernel_rfl) (by kernel_rfl) (by omega) (by first | omega | (simp only [List.length_cons, List.length_nil]; omega))) (by kernel_rfl) (by kernel_rfl) (by kernel_rfl) (by kernel_rfl) (fun _ _ _ h => h) ?_
    have hb4 : -9223372036854775808 ≤ xs.getD ((i).toNat) 0 ∧ xs.getD ((i).toNat) 0 < 9223372036854775808 := hix.at_ _
    refine RunU.sil hU false 3 (bm 7 15) 13 (.int .i64 i) (True) (by kernel_rfl) trivial (by kernel_rfl) (by kernel_rfl) (fun _ _ _ h => h) ?_
    refine RunU.sil hU false 4 (bm 7 31) 14 (.pointer (some ⟨b2, 0 + (i).toNat * 1, none⟩)) (0 ≤ i ∧ i < ((32 : Nat) : Int)) (by kernel_rfl) (by omega) (by kernel_rfl) (by kernel_rfl) (fun _ _ _ h => h) ?_
    refine RunU.read 5 (bm 7 63) 15 (.load 3 (.tmp 14)) (.int .i64 (ys.getD ((i).toNat) 0)) [1, 0] (by kernel_rfl) (Reads.load_blknum hU 1 b2 (0 + (i).toNat * 1) 31 ((i).toNat) .i64 ys rfl (by kernel_rfl) (by kernel_rfl) (by omega) (by first | omega | (simp only [List.length_cons, List.length_nil]; omega))) (by kernel_rfl) (by kernel_rfl) (by kernel_rfl) (by kernel_rfl) (fun _ _ _ h => h) ?_
    have hb5 : -9223372036854775808 ≤ ys.getD ((i).toNat) 0 ∧ ys.getD ((i).toNat) 0 < 9223372036854775808 := hiy.at_ _
    refine RunU.sil hU false 6 (bm 7 127) 16 (.bool (!decide ((xs.getD ((i).toNat) 0) = (ys.getD ((i).toNat) 0)))) (True) (by kernel_rfl) trivial (by kernel_rfl) (by kernel_rfl) (fun _ _ _ h => h) ?_
    refine RunU.env [2, 3, 5, 16] [(2, .pointer (some ⟨b1, 0, none⟩)), (3, .pointer (some ⟨b2, 0, none⟩)), (5, .int .i64 i), (16, .bool (!decide ((xs.getD ((i).toNat) 0) = (ys.getD ((i).toNat) 0))))] (by kernel_rfl) ?_
    refine RunU.done (by kernel_rfl) ?_
    refine kseq_n ?_
    refine RunC.condn ((xs.getD ((i).toNat) 0) = (ys.getD ((i).toNat) 0)) (by kernel_rfl) (fun h6 => ?_) (fun h6 => ?_)
    · skip
      refine RunC.seq ?_
      refine RunC.regionU hU 8 [blk b1 31 (nums .i64 xs), blk b2 31 (nums .i64 ys)] [1, 0] [7] (bm 8 0) (by kernel_rfl) (by kernel_rfl) (by kernel_rfl) ?_
      refine RunU.sil hU false 0 (bm 8 1) 17 (.int .i64 i) (True) (by kernel_rfl) trivial (by kernel_rfl) (by kernel_rfl) (fun _ _ _ h => h) ?_
      refine RunU.sil hU false 1 (bm 8 3) 18 (.pointer (some ⟨b1, 0 + (i).toNat * 1, none⟩)) (0 ≤ i ∧ i < ((32 : Nat) : Int)) (by kernel_rfl) (by omega) (by kernel_rfl) (by kernel_rfl) (fun _ _ _ h => h) ?_
      refine RunU.read 2 (bm 8 7) 19 (.load 3 (.tmp 18)) (.int .i64 (xs.getD ((i).toNat) 0)) [1, 0] (by kernel_rfl) (Reads.load_blknum hU 0 b1 (0 + (i).toNat * 1) 31 ((i).toNat) .i64 xs rfl (by kernel_rfl) (by kernel_rfl) (by omega) (by first | omega | (simp only [List.length_cons, List.length_nil]; omega))) (by kernel_rfl) (by kernel_rfl) (by kernel_rfl) (by kernel_rfl) (fun _ _ _ h => h) ?_
      have hb7 : -9223372036854775808 ≤ xs.getD ((i).toNat) 0 ∧ xs.getD ((i).toNat) 0 < 9223372036854775808 := hix.at_ _
      refine RunU.sil hU false 3 (bm 8 15) 20 (.int .i64 i) (True) (by kernel_rfl) trivial (by kernel_rfl) (by kernel_rfl) (fun _ _ _ h => h) ?_
      refine RunU.sil hU false 4 (bm 8 31) 21 (.pointer (some ⟨b2, 0 + (i).toNat * 1, none⟩)) (0 ≤ i ∧ i < ((32 : Nat) : Int)) (by kernel_rfl) (by omega) (by kernel_rfl) (by kernel_rfl) (fun _ _ _ h => h) ?_
      refine RunU.read 5 (bm 8 63) 22 (.load 3 (.tmp 21)) (.int .i64 (ys.getD ((i).toNat) 0)) [1, 0] (by kernel_rfl) (Reads.load_blknum hU 1 b2 (0 + (i).toNat * 1) 31 ((i).toNat) .i64 ys rfl (by kernel_rfl) (by kernel_rfl) (by omega) (by first | omega | (simp only [List.length_cons, List.length_nil]; omega))) (by kernel_rfl) (by kernel_rfl) (by kernel_rfl) (by kernel_rfl) (fun _ _ _ h => h) ?_
      have hb8 : -9223372036854775808 ≤ ys.getD ((i).toNat) 0 ∧ ys.getD ((i).toNat) 0 < 9223372036854775808 := hiy.at_ _
      refine RunU.sil hU false 6 (bm 8 127) 23 (.bool (decide ((xs.getD ((i).toNat) 0) < (ys.getD ((i).toNat) 0)))) (True) (by kernel_rfl) trivial (by kernel_rfl) (by kernel_rfl) (fun _ _ _ h => h) ?_
      refine RunU.sil hU false 7 (bm 8 255) 4 (.bool (decide ((xs.getD ((i).toNat) 0) < (ys.getD ((i).toNat) 0)))) (True) (by kernel_rfl) trivial (by kernel_rfl) (by kernel_rfl) (fun _ _ _ h => h) ?_
      refine RunU.env [2, 3, 4, 5] [(2, .pointer (some ⟨b1, 0, none⟩)), (3, .pointer (some ⟨b2, 0, none⟩)), (4, .bool (decide ((xs.getD ((i).toNat) 0) < (ys.getD ((i).toNat) 0)))), (5, .int .i64 i)] (by kernel_rfl) ?_
      refine RunU.done (by kernel_rfl) ?_
      refine kseq_n ?_
      refine RunC.ret ?_
      refine kblock_r ?_
      refine kseq_r ?_
      refine kloop_r ?_
      refine kblock_r ?_
      refine kseq_r ?_
      refine kret_r [.bool (decide ((xs.getD ((i).toNat) 0) < (ys.getD ((i).toNat) 0)))] [] [] ⟨rfl, trivial⟩ (by kernel_rfl) rfl ⟨(by first | rfl | (exact congrArg Value.bool (less_ret hX hY (by omega) (by rw [show (i + 1).toNat = i.toNat + 1 by omega] at hd; exact hd) (by assumption)))), (by first | rfl | (exact congrArg Value.bool (less_ret hX hY (by omega) (by rw [show (i + 1).toNat = i.toNat + 1 by omega] at hd; exact hd) (by assumption))))⟩
    · skip
      refine RunC.skip ?_
      refine kblock_n ?_
      refine kseq_n ?_
      refine RunC.region ?_
      refine RunR.sil hU [1] 3 3 [2, 3, 5] [(2, .pointer (some ⟨b1, 0, none⟩)), (3, .pointer (some ⟨b2, 0, none⟩)), (5, .int .i64 (i - 1))] ((True) ∧ (-9223372036854775808 ≤ (i - 1) ∧ (i - 1) < 9223372036854775808) ∧ (True) ∧ True) rfl (by kernel_rfl) ⟨trivial, (by omega), trivial, trivial⟩ ?_
      refine RunR.done (by kernel_rfl) ?_
      refine kloop_n _ [2, 3, 5] [0, 0] [(2, .pointer (some ⟨b1, 0, none⟩)), (3, .pointer (some ⟨b2, 0, none⟩)), (5, .int .i64 (i - 1))] [blk b2 31 (nums .i64 ys), blk b1 31 (nums .i64 xs)] (by kernel_rfl) (by kernel_rfl) ?_ ⟨(i - 1), (by first | assumption | omega | (simp only [List.length_append, List.length_cons, List.length_nil, List.length_set, List.length_replicate, List.length_take, List.length_drop]; omega) | (simp only [fits] at *; omega) | (simp only [List.length_append, List.length_cons, List.length_nil, List.length_set, List.length_replicate, List.length_take, List.length_drop] at *; omega) | (simp; done) | decide), (by first | assumption | omega | (simp only [List.length_append, List.length_cons, List.length_nil, List.length_set, List.length_replicate, List.length_take, List.length_drop]; omega) | (simp only [fits] at *; omega) | (simp only [List.length_append, List.length_cons, List.length_nil, List.length_set, List.length_replicate, List.length_take, List.length_drop] at *; omega) | (simp; done) | decide), (by rw [show (i - 1 + 1).toNat = i.toNat by omega]; rw [show (i + 1).toNat = i.toNat + 1 by omega] at hd; exact drop_step (by omega) (by omega) hd (by omega)), hix, hiy, rfl, (by first | rfl | simp only [List.length_set]), (by first | rfl | simp only [List.length_set])⟩
      show (((i - 1) + 1).toNat : Nat) < ((i + 1).toNat : Nat)
      omega
  · skip
    refine RunC.exit ?_
    refine kseq_e ?_
    refine kloop_e ?_
    refine kblock_e ?_
    refine kseq_n ?_
    refine RunC.seq ?_
    refine RunC.region ?_
    refine RunR.sil hU [] 1 1 [4] [(4, .bool false)] ((True) ∧ True) rfl (by kernel_rfl) ⟨trivial, trivial⟩ ?_
    refine RunR.done (by kernel_rfl) ?_
    refine kseq_n ?_
    refine RunC.ret ?_
    refine kret_r [.bool false] [] [] ⟨rfl, trivial⟩ (by kernel_rfl) rfl ⟨(by first | rfl | (exact congrArg Value.bool (less_end hX hY (by rw [show (i + 1).toNat = 0 by omega] at hd; exact hd)))), (by first | rfl | (exact congrArg Value.bool (less_end hX hY (by rw [show (i + 1).toNat = 0 by omega] at hd; exact hd))))⟩

theorem n_minus_spec (xs : List Int) (x : Int) (ys : List Int) (y : Int) (hX : Dg xs x) (hlx : xs.length = 32) (hY : Dg ys y) (hly : ys.length = 32) (hle : y ≤ x) :
    CallsS Try.prog 53 [.agg (nums .i64 xs).toArray, .agg (nums .i64 ys).toArray] [] (fun r D => ∃ (zs : List Int), r = .agg (nums .i64 zs).toArray ∧ D = [] ∧ (Dg zs (x - y)) ∧ (zs.length = 32)) := by
  refine CallsS.enter hU Try.f53 _ [.cell 4 31] 29 Try.func53 rfl (by decide) rfl rfl (by kernel_rfl) fun w0 W => ?_
  refine RunC.seq ?_
  refine RunC.region ?_
  refine RunR.step (dst := some 2) (op := .box 31 (.tmp 0)) (by kernel_rfl) (Step.box (.agg (nums .i64 xs).toArray) (by kernel_rfl) (by kernel_rfl) (fun b1 => ?_))
  refine RunR.step (dst := some 3) (op := .box 31 (.tmp 1)) (by kernel_rfl) (Step.box (.agg (nums .i64 ys).toArray) (by kernel_rfl) (by kernel_rfl) (fun b2 => ?_))
  refine RunR.step (dst := some 4) (op := .alloc 31) (by kernel_rfl) (Step.alloc hU 32 256 (.agg #[.int .i64 0, .int .i64 0, .int .i64 0, .int .i64 0, .int .i64 0, .int .i64 0, .int .i64 0, .int .i64 0, .int .i64 0, .int .i64 0, .int .i64 0, .int .i64 0, .int .i64 0, .int .i64 0, .int .i64 0, .int .i64 0, .int .i64 0, .int .i64 0, .int .i64 0, .int .i64 0, .int .i64 0, .int .i64 0, .int .i64 0, .int .i64 0, .int .i64 0, .int .i64 0, .int .i64 0, .int .i64 0, .int .i64 0, .int .i64 0, .int .i64 0, .int .i64 0]) rfl (by kernel_rfl) (fun b3 => ?_))
  have hl4 : (List.replicate 32 (0 : Int)).length = 32 := List.length_replicate
  refine RunR.done (by kernel_rfl) ?_
  refine kseq_n ?_
  refine RunC.seq ?_
  refine RunC.region ?_
  refine RunR.sil hU [] 1 1 [2, 3, 4, 5] [(2, .pointer (some ⟨b1, 0, none⟩)), (3, .pointer (some ⟨b2, 0, none⟩)), (4, .pointer (some ⟨b3, 0, none⟩)), (5, .int .i64 0)] ((True) ∧ True) rfl (by kernel_rfl) ⟨trivial, trivial⟩ ?_
  refine RunR.done (by kernel_rfl) ?_
  refine kseq_n ?_
  refine RunC.seq ?_
  refine RunC.seq ?_
  refine RunC.region ?_
  refine RunR.sil hU [] 1 1 [2, 3, 4, 5, 6] [(2, .pointer (some ⟨b1, 0, none⟩)), (3, .pointer (some ⟨b2, 0, none⟩)), (4, .pointer (some ⟨b3, 0, none⟩)), (5, .int .i64 0), (6, .int .i64 0)] ((True) ∧ True) rfl (by kernel_rfl) ⟨trivial, trivial⟩ ?_
  refine RunR.done (by kernel_rfl) ?_
  refine kseq_n ?_
  refine RunC.block ?_
  refine RunC.env [2, 3, 4, 5, 6] [(2, .pointer (some ⟨b1, 0, none⟩)), (3, .pointer (some ⟨b2, 0, none⟩)), (4, .pointer (some ⟨b3, 0, none⟩)), (5, .int .i64 0), (6, .int .i64 0)] (by kernel_rfl) ?_
  refine RunC.only [2, 0, 0] [blk b1 31 (nums .i64 xs), blk b3 31 (nums .i64 (List.replicate 32 (0 : Int))), blk b2 31 (nums .i64 ys)] (by kernel_rfl) ?_
  refine RunC.loop (σ := Nat) (fun n_ t_ D_ => ∃ (i : Int) (os : List Int) (c : Int), (0 ≤ i) ∧ (i ≤ 32) ∧ (os = mapP (sd xs ys) xs i.toNat) ∧ (c = bo xs ys i.toNat) ∧ (0 ≤ c ∧ c ≤ 1) ∧ (In .u8 os) ∧ (In .u8 ys) ∧ (os.length = 32) ∧ n_ = ((32 - i).toNat : Nat) ∧ t_ = [(2, .pointer (some ⟨b1, 0, none⟩)), (3, .pointer (some ⟨b2, 0, none⟩)), (4, .pointer (some ⟨b3, 0, none⟩)), (5, .int .i64 c), (6, .int .i64 i)] ∧ D_ = [blk b1 31 (nums .i64 os), blk b3 31 (nums .i64 (List.replicate 32 (0 : Int))), blk b2 31 (nums .i64 ys)]) id _ ⟨0, xs, 0, (by first | assumption | omega | (simp only [List.length_append, List.length_cons, List.length_nil, List.length_set, List.length_replicate, List.length_take, List.length_drop]; omega) | (simp only [fits] at *; omega) | (simp only [List.length_append, List.length_cons, List.length_nil, List.length_set, List.length_replicate, List.length_take, List.length_drop] at *; omega) | (simp; done) | decide), (by first | assumption | omega | (simp only [List.length_append, List.length_cons, List.length_nil, List.length_set, List.length_replicate, List.length_take, List.length_drop]; omega) | (simp only [fits] at *; omega) | (simp only [List.length_append, List.length_cons, List.length_nil, List.length_set, List.length_replicate, List.length_take, List.length_drop] at *; omega) | (simp; done) | decide), (by (rw [show (0 : Int).toNat = 0 from rfl, mapP_zero])), (by rfl), (by first | assumption | omega | (simp only [List.length_append, List.length_cons, List.length_nil, List.length_set, List.length_replicate, List.length_take, List.length_drop]; omega) | (simp only [fits] at *; omega) | (simp only [List.length_append, List.length_cons, List.length_nil, List.length_set, List.length_replicate, List.length_take, List.length_drop] at *; omega) | (simp; done) | decide), (by exact hX.inn), (by exact hY.inn), (by assumption), rfl, rfl, rfl⟩ ?_
  rintro n_ _ _ ⟨i, os, c, hi, hi2, ho, hc, hcb, hob, hoy, hol, rfl, rfl, rfl⟩
  refine RunC.seq ?_
  refine RunC.seq ?_
  refine RunC.region ?_
  refine RunR.sil hU [] 2 2 [2, 3, 4, 5, 6, 9] [(2, .pointer (some ⟨b1, 0, none⟩)), (3, .pointer (some ⟨b2, 0, none⟩)), (4, .pointer (some ⟨b3, 0, none⟩)), (5, .int .i64 c), (6, .int .i64 i), (9, .bool (decide (i < 32)))] ((True) ∧ (True) ∧ True) rfl (by kernel_rfl) ⟨trivial, trivial, trivial⟩ ?_
  refine RunR.done (by kernel_rfl) ?_
  refine kseq_n ?_
  refine RunC.condp (i < 32) (by kernel_rfl) (fun h5 => ?_) (fun h5 => ?_)
  · skip
    refine RunC.skip ?_
    refine kseq_n ?_
    refine RunC.seq ?_
    refine RunC.block ?_
    refine RunC.seq ?_
    refine RunC.regionU hU 10 [blk b1 31 (nums .i64 os), blk b2 31 (nums .i64 ys)] [0, 2] [9] (bm 10 0) (by kernel_rfl) (by kernel_rfl) (by kernel_rfl) ?_
    refine RunU.sil hU false 0 (bm 10 1) 12 (.int .i64 i) (True) (by kernel_rfl) trivial (by kernel_rfl) (by kernel_rfl) (fun _ _ _ h => h) ?_
    refine RunU.sil hU false 1 (bm 10 3) 13 (.pointer (some ⟨b1, 0 + (i).toNat * 1, none⟩)) (0 ≤ i ∧ i < ((32 : Nat) : Int)) (by kernel_rfl) (by omega) (by kernel_rfl) (by kernel_rfl) (fun _ _ _ h => h) ?_
    refine RunU.read 2 (bm 10 7) 14 (.load 3 (.tmp 13)) (.int .i64 (os.getD ((i).toNat) 0)) [0, 2] (by kernel_rfl) (Reads.load_blknum hU 0 b1 (0 + (i).toNat * 1) 31 ((i).toNat) .i64 os rfl (by kernel_rfl) (by kernel_rfl) (by omega) (by first | omega | (simp only [List.length_cons, List.length_nil]; omega))) (by kernel_rfl) (by kernel_rfl) (by kernel_rfl) (by kernel_rfl) (fun _ _ _ h => h) ?_
    have hb6 : 0 ≤ os.getD ((i).toNat) 0 ∧ os.getD ((i).toNat) 0 < 256 := hob.at_ _
    refine RunU.sil hU false 3 (bm 10 15) 15 (.int .i64 i) (True) (by kernel_rfl) trivial (by kernel_rfl) (by kernel_rfl) (fun _ _ _ h => h) ?_
    refine RunU.sil hU false 4 (bm 10 31) 16 (.pointer (some ⟨b2, 0 + (i).toNat * 1, none⟩)) (0 ≤ i ∧ i < ((32 : Nat) : Int)) (by kernel_rfl) (by omega) (by kernel_rfl) (by kernel_rfl) (fun _ _ _ h => h) ?_
    refine RunU.read 5 (bm 10 63) 17 (.load 3 (.tmp 16)) (.int .i64 (ys.getD ((i).toNat) 0)) [0, 2] (by kernel_rfl) (Reads.load_blknum hU 1 b2 (0 + (i).toNat * 1) 31 ((i).toNat) .i64 ys rfl (by kernel_rfl) (by kernel_rfl) (by omega) (by first | omega | (simp only [List.length_cons, List.length_nil]; omega))) (by kernel_rfl) (by kernel_rfl) (by kernel_rfl) (by kernel_rfl) (fun _ _ _ h => h) ?_
    have hb7 : 0 ≤ ys.getD ((i).toNat) 0 ∧ ys.getD ((i).toNat) 0 < 256 := hoy.at_ _
    refine RunU.sil hU true 6 (bm 10 127) 18 (.int .i64 ((os.getD ((i).toNat) 0) - (ys.getD ((i).toNat) 0))) (-9223372036854775808 ≤ ((os.getD ((i).toNat) 0) - (ys.getD ((i).toNat) 0)) ∧ ((os.getD ((i).toNat) 0) - (ys.getD ((i).toNat) 0)) < 9223372036854775808) (by kernel_rfl) (by omega) (by kernel_rfl) (by kernel_rfl) (fun _ _ _ h => h) ?_
    refine RunU.sil hU false 7 (bm 10 255) 19 (.int .i64 c) (True) (by kernel_rfl) trivial (by kernel_rfl) (by kernel_rfl) (fun _ _ _ h => h) ?_
    refine RunU.sil hU true 8 (bm 10 511) 20 (.int .i64 (((os.getD ((i).toNat) 0) - (ys.getD ((i).toNat) 0)) - c)) (-9223372036854775808 ≤ (((os.getD ((i).toNat) 0) - (ys.getD ((i).toNat) 0)) - c) ∧ (((os.getD ((i).toNat) 0) - (ys.getD ((i).toNat) 0)) - c) < 9223372036854775808) (by kernel_rfl) (by omega) (by kernel_rfl) (by kernel_rfl) (fun _ _ _ h => h) ?_
    refine RunU.sil hU false 9 (bm 10 1023) 7 (.int .i64 (((os.getD ((i).toNat) 0) - (ys.getD ((i).toNat) 0)) - c)) (True) (by kernel_rfl) trivial (by kernel_rfl) (by kernel_rfl) (fun _ _ _ h => h) ?_
    refine RunU.env [2, 3, 4, 5, 6, 7] [(2, .pointer (some ⟨b1, 0, none⟩)), (3, .pointer (some ⟨b2, 0, none⟩)), (4, .pointer (some ⟨b3, 0, none⟩)), (5, .int .i64 c), (6, .int .i64 i), (7, .int .i64 (((os.getD ((i).toNat) 0) - (ys.getD ((i).toNat) 0)) - c))] (by kernel_rfl) ?_
    refine RunU.done (by kernel_rfl) ?_
    refine kseq_n ?_
    refine RunC.seq ?_
    refine RunC.region ?_
    refine RunR.sil hU [] 1 1 [2, 3, 4, 5, 6, 7] [(2, .pointer (some ⟨b1, 0, none⟩)), (3, .pointer (some ⟨b2, 0, none⟩)), (4, .pointer (some ⟨b3, 0, none⟩)), (5, .int .i64 0), (6, .int .i64 i), (7, .int .i64 (((os.getD ((i).toNat) 0) - (ys.getD ((i).toNat) 0)) - c))] ((True) ∧ True) rfl (by kernel_rfl) ⟨trivial, trivial⟩ ?_
    refine RunR.done (by kernel_rfl) ?_
    refine kseq_n ?_
    refine RunC.seq ?_
    refine RunC.seq ?_
    refine RunC.region ?_
    refine RunR.sil hU [] 2 2 [2, 3, 4, 5, 6, 7, 22] [(2, .pointer (some ⟨b1, 0, none⟩)), (3, .pointer (some ⟨b2, 0, none⟩)), (4, .pointer (some ⟨b3, 0, none⟩)), (5, .int .i64 0), (6, .int .i64 i), (7, .int .i64 (((os.getD ((i).toNat) 0) - (ys.getD ((i).toNat) 0)) - c)), (22, .bool (decide ((((os.getD ((i).toNat) 0) - (ys.getD ((i).toNat) 0)) - c) < 0)))] ((True) ∧ (True) ∧ True) rfl (by kernel_rfl) ⟨trivial, trivial, trivial⟩ ?_
    refine RunR.done (by kernel_rfl) ?_
    refine kseq_n ?_
    refine RunC.condp ((((os.getD ((i).toNat) 0) - (ys.getD ((i).toNat) 0)) - c) < 0) (by kernel_rfl) (fun h8 => ?_) (fun h8 => ?_)
    · skip
      refine RunC.seq ?_
      refine RunC.region ?_
      refine RunR.sil hU [1] 3 3 [2, 3, 4, 5, 6, 7] [(2, .pointer (some ⟨b1, 0, none⟩)), (3, .pointer (some ⟨b2, 0, none⟩)), (4, .pointer (some ⟨b3, 0, none⟩)), (5, .int .i64 0), (6, .int .i64 i), (7, .int .i64 ((((os.getD ((i).toNat) 0) - (ys.getD ((i).toNat) 0)) - c) + 256))] ((True) ∧ (-9223372036854775808 ≤ ((((os.getD ((i).toNat) 0) - (ys.getD ((i).toNat) 0)) - c) + 256) ∧ ((((os.getD ((i).toNat) 0) - (ys.getD ((i).toNat) 0)) - c) + 256) < 9223372036854775808) ∧ (True) ∧ True) rfl (by kernel_rfl) ⟨trivial, (by omega), trivial, trivial⟩ ?_
      refine RunR.done (by kernel_rfl) ?_
      refine kseq_n ?_
      refine RunC.region ?_
      refine RunR.sil hU [] 1 1 [2, 3, 4, 5, 6, 7] [(2, .pointer (some ⟨b1, 0, none⟩)), (3, .pointer (some ⟨b2, 0, none⟩)), (4, .pointer (some ⟨b3, 0, none⟩)), (5, .int .i64 1), (6, .int .i64 i), (7, .int .i64 ((((os.getD ((i).toNat) 0) - (ys.getD ((i).toNat) 0)) - c) + 256))] ((True) ∧ True) rfl (by kernel_rfl) ⟨trivial, trivial⟩ ?_
      refine RunR.done (by kernel_rfl) ?_
      refine kseq_n ?_
      refine RunC.region ?_
      refine RunR.sil hU [] 3 3 [2, 3, 4, 5, 6, 26, 27] [(2, .pointer (some ⟨b1, 0, none⟩)), (3, .pointer (some ⟨b2, 0, none⟩)), (4, .pointer (some ⟨b3, 0, none⟩)), (5, .int .i64 1), (6, .int .i64 i), (26, .int .i64 ((((os.getD ((i).toNat) 0) - (ys.getD ((i).toNat) 0)) - c) + 256)), (27, .pointer (some ⟨b1, 0 + (i).toNat * 1, none⟩))] ((True) ∧ (True) ∧ (0 ≤ i ∧ i < ((32 : Nat) : Int)) ∧ True) rfl (by kernel_rfl) ⟨trivial, trivial, (by omega), trivial⟩ ?_
      refine RunR.step (dst := none) (op := .store 3 (.tmp 27) (.tmp 26)) (by kernel_rfl) (Step.store_blknum hU 0 b1 (0 + (i).toNat * 1) 31 ((i).toNat) .i64 os ((((os.getD ((i).toNat) 0) - (ys.getD ((i).toNat) 0)) - c) + 256) (by kernel_rfl) (by kernel_rfl) (by kernel_rfl) rfl (by omega) (by first | omega | (simp only [List.length_cons, List.length_nil]; omega)) ?_)
      have hl9 : (os.set ((i).toNat) ((((os.getD ((i).toNat) 0) - (ys.getD ((i).toNat) 0)) - c) + 256)).length = os.length := List.length_set
      refine RunR.done (by kernel_rfl) ?_
      refine kblock_n ?_
      refine kseq_n ?_
      refine RunC.region ?_
      refine RunR.sil hU [1] 3 3 [2, 3, 4, 5, 6] [(2, .pointer (some ⟨b1, 0, none⟩)), (3, .pointer (some ⟨b2, 0, none⟩)), (4, .pointer (some ⟨b3, 0, none⟩)), (5, .int .i64 1), (6, .int .i64 (i + 1))] ((True) ∧ (-9223372036854775808 ≤ (i + 1) ∧ (i + 1) < 9223372036854775808) ∧ (True) ∧ True) rfl (by kernel_rfl) ⟨trivial, (by omega), trivial, trivial⟩ ?_
      refine RunR.done (by kernel_rfl) ?_
      refine kloop_n _ [2, 3, 4, 5, 6] [0, 0, 0] [(2, .pointer (some ⟨b1, 0, none⟩)), (3, .pointer (some ⟨b2, 0, none⟩)), (4, .pointer (some ⟨b3, 0, none⟩)), (5, .int .i64 1), (6, .int .i64 (i + 1))] [blk b1 31 (nums .i64 (os.set ((i).toNat) ((((os.getD ((i).toNat) 0) - (ys.getD ((i).toNat) 0)) - c) + 256))), blk b3 31 (nums .i64 (List.replicate 32 (0 : Int))), blk b2 31 (nums .i64 ys)] (by kernel_rfl) (by kernel_rfl) ?_ ⟨(i + 1), (os.set ((i).toNat) ((((os.getD ((i).toNat) 0) - (ys.getD ((i).toNat) 0)) - c) + 256)), 1, (by first | assumption | omega | (simp only [List.length_append, List.length_cons, List.length_nil, List.length_set, List.length_replicate, List.length_take, List.length_drop]; omega) | (simp only [fits] at *; omega) | (simp only [List.length_append, List.length_cons, List.length_nil, List.length_set, List.length_replicate, List.length_take, List.length_drop] at *; omega) | (simp; done) | decide), (by first | assumption | omega | (simp only [List.length_append, List.length_cons, List.length_nil, List.length_set, List.length_replicate, List.length_take, List.length_drop]; omega) | (simp only [fits] at *; omega) | (simp only [List.length_append, List.length_cons, List.length_nil, List.length_set, List.length_replicate, List.length_take, List.length_drop] at *; omega) | (simp; done) | decide), (by first | exact ((minus_step hX hi (by omega) ho hc).1 (by omega)).1 | exact ((minus_step hX hi (by omega) ho hc).2 (by omega)).1), (by first | exact ((minus_step hX hi (by omega) ho hc).1 (by omega)).2 | exact ((minus_step hX hi (by omega) ho hc).2 (by omega)).2), (by first | assumption | omega | (simp only [List.length_append, List.length_cons, List.length_nil, List.length_set, List.length_replicate, List.length_take, List.length_drop]; omega) | (simp only [fits] at *; omega) | (simp only [List.length_append, List.length_cons, List.length_nil, List.length_set, List.length_replicate, List.length_take, List.length_drop] at *; omega) | (simp; done) | decide), (by exact In.set hob _ (by simp only [fits]; omega)), hoy, (by first | rfl | assumption | omega | (simp only [List.length_append, List.length_cons, List.length_nil, List.length_set, List.length_replicate, List.length_take, List.length_drop]; omega) | (simp; done)), rfl, (by first | rfl | simp only [List.length_set]), (by first | rfl | simp only [List.length_set])⟩
      show ((32 - (i + 1)).toNat : Nat) < ((32 - i).toNat : Nat)
      omega
    · skip
      refine RunC.skip ?_
      refine kseq_n ?_
      refine RunC.region ?_
      refine RunR.sil hU [] 3 3 [2, 3, 4, 5, 6, 26, 27] [(2, .pointer (some ⟨b1, 0, none⟩)), (3, .pointer (some ⟨b2, 0, none⟩)), (4, .pointer (some ⟨b3, 0, none⟩)), (5, .int .i64 0), (6, .int .i64 i), (26, .int .i64 (((os.getD ((i).toNat) 0) - (ys.getD ((i).toNat) 0)) - c)), (27, .pointer (some ⟨b1, 0 + (i).toNat * 1, none⟩))] ((True) ∧ (True) ∧ (0 ≤ i ∧ i < ((32 : Nat) : Int)) ∧ True) rfl (by kernel_rfl) ⟨trivial, trivial, (by omega), trivial⟩ ?_
      refine RunR.step (dst := none) (op := .store 3 (.tmp 27) (.tmp 26)) (by kernel_rfl) (Step.store_blknum hU 0 b1 (0 + (i).toNat * 1) 31 ((i).toNat) .i64 os (((os.getD ((i).toNat) 0) - (ys.getD ((i).toNat) 0)) - c) (by kernel_rfl) (by kernel_rfl) (by kernel_rfl) rfl (by omega) (by first | omega | (simp only [List.length_cons, List.length_nil]; omega)) ?_)
      have hl10 : (os.set ((i).toNat) (((os.getD ((i).toNat) 0) - (ys.getD ((i).toNat) 0)) - c)).length = os.length := List.length_set
      refine RunR.done (by kernel_rfl) ?_
      refine kblock_n ?_
      refine kseq_n ?_
      refine RunC.region ?_
      refine RunR.sil hU [1] 3 3 [2, 3, 4, 5, 6] [(2, .pointer (some ⟨b1, 0, none⟩)), (3, .pointer (some ⟨b2, 0, none⟩)), (4, .pointer (some ⟨b3, 0, none⟩)), (5, .int .i64 0), (6, .int .i64 (i + 1))] ((True) ∧ (-9223372036854775808 ≤ (i + 1) ∧ (i + 1) < 9223372036854775808) ∧ (True) ∧ True) rfl (by kernel_rfl) ⟨trivial, (by omega), trivial, trivial⟩ ?_
      refine RunR.done (by kernel_rfl) ?_
      refine kloop_n _ [2, 3, 4, 5, 6] [0, 0, 0] [(2, .pointer (some ⟨b1, 0, none⟩)), (3, .pointer (some ⟨b2, 0, none⟩)), (4, .pointer (some ⟨b3, 0, none⟩)), (5, .int .i64 0), (6, .int .i64 (i + 1))] [blk b1 31 (nums .i64 (os.set ((i).toNat) (((os.getD ((i).toNat) 0) - (ys.getD ((i).toNat) 0)) - c))), blk b3 31 (nums .i64 (List.replicate 32 (0 : Int))), blk b2 31 (nums .i64 ys)] (by kernel_rfl) (by kernel_rfl) ?_ ⟨(i + 1), (os.set ((i).toNat) (((os.getD ((i).toNat) 0) - (ys.getD ((i).toNat) 0)) - c)), 0, (by first | assumption | omega | (simp only [List.length_append, List.length_cons, List.length_nil, List.length_set, List.length_replicate, List.length_take, List.length_drop]; omega) | (simp only [fits] at *; omega) | (simp only [List.length_append, List.length_cons, List.length_nil, List.length_set, List.length_replicate, List.length_take, List.length_drop] at *; omega) | (simp; done) | decide), (by first | assumption | omega | (simp only [List.length_append, List.length_cons, List.length_nil, List.length_set, List.length_replicate, List.length_take, List.length_drop]; omega) | (simp only [fits] at *; omega) | (simp only [List.length_append, List.length_cons, List.length_nil, List.length_set, List.length_replicate, List.length_take, List.length_drop] at *; omega) | (simp; done) | decide), (by first | exact ((minus_step hX hi (by omega) ho hc).1 (by omega)).1 | exact ((minus_step hX hi (by omega) ho hc).2 (by omega)).1), (by first | exact ((minus_step hX hi (by omega) ho hc).1 (by omega)).2 | exact ((minus_step hX hi (by omega) ho hc).2 (by omega)).2), (by first | assumption | omega | (simp only [List.length_append, List.length_cons, List.length_nil, List.length_set, List.length_replicate, List.length_take, List.length_drop]; omega) | (simp only [fits] at *; omega) | (simp only [List.length_append, List.length_cons, List.length_nil, List.length_set, List.length_replicate, List.length_take, List.length_drop] at *; omega) | (simp; done) | decide), (by exact In.set hob _ (by simp only [fits]; omega)), hoy, (by first | rfl | assumption | omega | (simp only [List.length_append, List.length_cons, List.length_nil, List.length_set, List.length_replicate, List.length_take, List.length_drop]; omega) | (simp; done)), rfl, (by first | rfl | simp only [List.length_set]), (by first | rfl | simp only [List.length_set])⟩
      show ((32 - (i + 1)).toNat : Nat) < ((32 - i).toNat : Nat)
      omega
  · skip
    refine RunC.exit ?_
    refine kseq_e ?_
    refine kloop_e ?_
    refine kblock_e ?_
    refine kseq_n ?_
    refine RunC.seq ?_
    refine RunC.region ?_
    refine RunR.step (dst := some 28) (op := .load 31 (.tmp 2)) (by kernel_rfl) (Step.load_arr hU 0 b1 31 32 .i64 os (by kernel_rfl) (by kernel_rfl) (by kernel_rfl) (by kernel_rfl) (by first | rfl | omega | (simp; done)) (by kernel_rfl) ?_)
    refine RunR.step (dst := none) (op := .store 31 (.tmp 4) (.tmp 28)) (by kernel_rfl) (Step.store_arr hU 1 b3 31 32 .i64 (List.replicate 32 (0 : Int)) os (by kernel_rfl) (by kernel_rfl) (by kernel_rfl) (by kernel_rfl) (by first | rfl | omega | (simp; done)) (by first | rfl | omega | (simp; done)) ?_)
    refine RunR.done (by kernel_rfl) ?_
    refine kseq_n ?_
    refine RunC.ret ?_
    refine kret_r [.agg (nums .i64 os).toArray] [] [] ⟨⟨0, b3, 0, 31, nums .i64 os, rfl, rfl, (loadv_arr (U := U) (n := 32) (by kernel_rfl) (by kernel_rfl) (by first | rfl | omega | assumption | (simp; done)))⟩, trivial⟩ (by kernel_rfl) rfl ⟨os, rfl, rfl, (by exact minus_end hX hY hle (by rw [ho, show i = 32 by omega] <;> rfl)), (by assumption)⟩

theorem n_Small_spec (n : Int) (hn : fits .u32 n) :
    CallsS Try.prog 37 [.int .u32 n] [] (fun r D => ∃ (zs : List Int), r = .agg (nums .i64 zs).toArray ∧ D = [] ∧ (Dg zs (n)) ∧ (zs.length = 32)) := by
  refine CallsS.enter hU Try.f37 _ [.cell 2 31] 19 Try.func37 rfl (by decide) rfl rfl (by kernel_rfl) fun w0 W => ?_
  have hn2 := hn; simp only [fits] at hn2
  refine RunC.seq ?_
  refine RunC.region ?_
  refine RunR.step (dst := some 2) (op := .alloc 31) (by kernel_rfl) (Step.alloc hU 32 256 (.agg #[.int .i64 0, .int .i64 0, .int .i64 0, .int .i64 0, .int .i64 0, .int .i64 0, .int .i64 0, .int .i64 0, .int .i64 0, .int .i64 0, .int .i64 0, .int .i64 0, .int .i64 0, .int .i64 0, .int .i64 0, .int .i64 0, .int .i64 0, .int .i64 0, .int .i64 0, .int .i64 0, .int .i64 0, .int .i64 0, .int .i64 0, .int .i64 0, .int .i64 0, .int .i64 0, .int .i64 0, .int .i64 0, .int .i64 0, .int .i64 0, .int .i64 0, .int .i64 0]) rfl (by kernel_rfl) (fun b1 => ?_))
  have hl2 : (List.replicate 32 (0 : Int)).length = 32 := List.length_replicate
  refine RunR.done (by kernel_rfl) ?_
  refine kseq_n ?_
  refine RunC.seq ?_
  refine RunC.region ?_
  refine RunR.step (dst := some 3) (op := .alloc 31) (by kernel_rfl) (Step.alloc hU 32 256 (.agg #[.int .i64 0, .int .i64 0, .int .i64 0, .int .i64 0, .int .i64 0, .int .i64 0, .int .i64 0, .int .i64 0, .int .i64 0, .int .i64 0, .int .i64 0, .int .i64 0, .int .i64 0, .int .i64 0, .int .i64 0, .int .i64 0, .int .i64 0, .int .i64 0, .int .i64 0, .int .i64 0, .int .i64 0, .int .i64 0, .int .i64 0, .int .i64 0, .int .i64 0, .int .i64 0, .int .i64 0, .int .i64 0, .int .i64 0, .int .i64 0, .int .i64 0, .int .i64 0]) rfl (by kernel_rfl) (fun b3 => ?_))
  have hl4 : (List.replicate 32 (0 : Int)).length = 32 := List.length_replicate
  refine RunR.done (by kernel_rfl) ?_
  refine kseq_n ?_
  refine RunC.seq ?_
  refine RunC.seq ?_
  refine RunC.region ?_
  refine RunR.sil hU [] 1 1 [0, 2, 3, 4] [(0, .int .u32 n), (2, .pointer (some ⟨b1, 0, none⟩)), (3, .pointer (some ⟨b3, 0, none⟩)), (4, .int .i64 0)] ((True) ∧ True) rfl (by kernel_rfl) ⟨trivial, trivial⟩ ?_
  refine RunR.done (by kernel_rfl) ?_
  refine kseq_n ?_
  refine RunC.block ?_
  refine RunC.env [0, 2, 3, 4] [(0, .int .u32 n), (2, .pointer (some ⟨b1, 0, none⟩)), (3, .pointer (some ⟨b3, 0, none⟩)), (4, .int .i64 0)] (by kernel_rfl) ?_
  refine RunC.only [0, 0] [blk b3 31 (nums .i64 (List.replicate 32 (0 : Int))), blk b1 31 (nums .i64 (List.replicate 32 (0 : Int)))] (by kernel_rfl) ?_
  refine RunC.loop (σ := Nat) (fun n_ t_ D_ => ∃ (i : Int) (os : List Int), (0 ≤ i) ∧ (i ≤ 4) ∧ (os = mapP (fun i => n / 256 ^ i % 256) (List.replicate 32 0) i.toNat) ∧ (os.length = 32) ∧ n_ = ((4 - i).toNat : Nat) ∧ t_ = [(0, .int .u32 n), (2, .pointer (some ⟨b1, 0, none⟩)), (3, .pointer (some ⟨b3, 0, none⟩)), (4, .int .i64 i)] ∧ D_ = [blk b3 31 (nums .i64 os), blk b1 31 (nums .i64 (List.replicate 32 (0 : Int)))]) id _ ⟨0, (List.replicate 32 (0 : Int)), (by first | assumption | omega | (simp only [List.length_append, List.length_cons, List.length_nil, List.length_set, List.length_replicate, List.length_take, List.length_drop]; omega) | (simp only [fits] at *; omega) | (simp only [List.length_append, List.length_cons, List.length_nil, List.length_set, List.length_replicate, List.length_take, List.length_drop] at *; omega) | (simp; done) | decide), (by first | assumption | omega | (simp only [List.length_append, List.length_cons, List.length_nil, List.length_set, List.length_replicate, List.length_take, List.length_drop]; omega) | (simp only [fits] at *; omega) | (simp only [List.length_append, List.length_cons, List.length_nil, List.length_set, List.length_replicate, List.length_take, List.length_drop] at *; omega) | (simp; done) | decide), (by rfl), (by rfl), rfl, rfl, rfl⟩ ?_
  rintro n_ _ _ ⟨i, os, hi, hi2, ho, hol, rfl, rfl, rfl⟩
  refine RunC.seq ?_
  refine RunC.seq ?_
  refine RunC.region ?_
  refine RunR.sil hU [] 2 2 [0, 2, 3, 4, 6] [(0, .int .u32 n), (2, .pointer (some ⟨b1, 0, none⟩)), (3, .pointer (some ⟨b3, 0, none⟩)), (4, .int .i64 i), (6, .bool (decide (i < 4)))] ((True) ∧ (True) ∧ True) rfl (by kernel_rfl) ⟨trivial, trivial, trivial⟩ ?_
  refine RunR.done (by kernel_rfl) ?_
  refine kseq_n ?_
  refine RunC.condp (i < 4) (by kernel_rfl) (fun h5 => ?_) (fun h5 => ?_)
  · skip
    refine RunC.skip ?_
    refine kseq_n ?_
    refine RunC.seq ?_
    refine RunC.block ?_
    refine RunC.region ?_
    have hm6 : 0 ≤ n → 0 ≤ n / 2 ^ (min (8 * i).toNat 32) ∧ n / 2 ^ (min (8 * i).toNat 32) ≤ n := fun h => ⟨Int.ediv_nonneg h (Int.le_of_lt (Int.pow_pos (by decide))), Int.ediv_le_self _ h⟩
    refine RunR.sil hU [3, 4, 5, 6, 7] 9 9 [0, 2, 3, 4, 16, 17] [(0, .int .u32 n), (2, .pointer (some ⟨b1, 0, none⟩)), (3, .pointer (some ⟨b3, 0, none⟩)), (4, .int .i64 i), (16, .int .i64 ((n / 2 ^ (min (8 * i).toNat 32)) % (256 : Int))), (17, .pointer (some ⟨b3, 0 + (i).toNat * 1, none⟩))] ((True) ∧ (True) ∧ (True) ∧ (-9223372036854775808 ≤ (8 * i) ∧ (8 * i) < 9223372036854775808) ∧ (0 ≤ (8 * i) ∧ (8 * i) < 18446744073709551616) ∧ (0 ≤ (8 * i)) ∧ (-9223372036854775808 ≤ (n / 2 ^ (min (8 * i).toNat 32)) ∧ (n / 2 ^ (min (8 * i).toNat 32)) < 9223372036854775808) ∧ (0 ≤ (n / 2 ^ (min (8 * i).toNat 32)) ∧ 0 < (256 : Int)) ∧ (0 ≤ i ∧ i < ((32 : Nat) : Int)) ∧ True) rfl (by kernel_rfl) ⟨trivial, trivial, trivial, (by omega), (by omega), (by omega), (by omega), (by omega), (by omega), trivial⟩ ?_
    refine RunR.step (dst := none) (op := .store 3 (.tmp 17) (.tmp 16)) (by kernel_rfl) (Step.store_blknum hU 0 b3 (0 + (i).toNat * 1) 31 ((i).toNat) .i64 os ((n / 2 ^ (min (8 * i).toNat 32)) % (256 : Int)) (by kernel_rfl) (by kernel_rfl) (by kernel_rfl) rfl (by omega) (by first | omega | (simp only [List.length_cons, List.length_nil]; omega)) ?_)
    have hl7 : (os.set ((i).toNat) ((n / 2 ^ (min (8 * i).toNat 32)) % (256 : Int))).length = os.length := List.length_set
    refine RunR.done (by kernel_rfl) ?_
    refine kblock_n ?_
    refine kseq_n ?_
    refine RunC.region ?_
    refine RunR.sil hU [1] 3 3 [0, 2, 3, 4] [(0, .int .u32 n), (2, .pointer (some ⟨b1, 0, none⟩)), (3, .pointer (some ⟨b3, 0, none⟩)), (4, .int .i64 (i + 1))] ((True) ∧ (-9223372036854775808 ≤ (i + 1) ∧ (i + 1) < 9223372036854775808) ∧ (True) ∧ True) rfl (by kernel_rfl) ⟨trivial, (by omega), trivial, trivial⟩ ?_
    refine RunR.done (by kernel_rfl) ?_
    refine kloop_n _ [0, 2, 3, 4] [0, 0] [(0, .int .u32 n), (2, .pointer (some ⟨b1, 0, none⟩)), (3, .pointer (some ⟨b3, 0, none⟩)), (4, .int .i64 (i + 1))] [blk b3 31 (nums .i64 (os.set ((i).toNat) ((n / 2 ^ (min (8 * i).toNat 32)) % (256 : Int)))), blk b1 31 (nums .i64 (List.replicate 32 (0 : Int)))] (by kernel_rfl) (by kernel_rfl) ?_ ⟨(i + 1), (os.set ((i).toNat) ((n / 2 ^ (min (8 * i).toNat 32)) % (256 : Int))), (by first | assumption | omega | (simp only [List.length_append, List.length_cons, List.length_nil, List.length_set, List.length_replicate, List.length_take, List.length_drop]; omega) | (simp only [fits] at *; omega) | (simp only [List.length_append, List.length_cons, List.length_nil, List.length_set, List.length_replicate, List.length_take, List.length_drop] at *; omega) | (simp; done) | decide), (by first | assumption | omega | (simp only [List.length_append, List.length_cons, List.length_nil, List.length_set, List.length_replicate, List.length_take, List.length_drop]; omega) | (simp only [fits] at *; omega) | (simp only [List.length_append, List.length_cons, List.length_nil, List.length_set, List.length_replicate, List.length_take, List.length_drop] at *; omega) | (simp; done) | decide), (by rw [ho]; exact small_step (by omega) (by omega)), (by rw [List.length_set]; exact hol), rfl, (by first | rfl | simp only [List.length_set]), (by first | rfl | simp only [List.length_set])⟩
    show ((4 - (i + 1)).toNat : Nat) < ((4 - i).toNat : Nat)
    omega
  · skip
    refine RunC.exit ?_
    refine kseq_e ?_
    refine kloop_e ?_
    refine kblock_e ?_
    refine kseq_n ?_
    refine RunC.seq ?_
    refine RunC.region ?_
    refine RunR.step (dst := some 18) (op := .load 31 (.tmp 3)) (by kernel_rfl) (Step.load_arr hU 0 b3 31 32 .i64 os (by kernel_rfl) (by kernel_rfl) (by kernel_rfl) (by kernel_rfl) (by first | rfl | omega | (simp; done)) (by kernel_rfl) ?_)
    refine RunR.step (dst := none) (op := .store 31 (.tmp 2) (.tmp 18)) (by kernel_rfl) (Step.store_arr hU 1 b1 31 32 .i64 (List.replicate 32 (0 : Int)) os (by kernel_rfl) (by kernel_rfl) (by kernel_rfl) (by kernel_rfl) (by first | rfl | omega | (simp; done)) (by first | rfl | omega | (simp; done)) ?_)
    refine RunR.done (by kernel_rfl) ?_
    refine kseq_n ?_
    refine RunC.ret ?_
    refine kret_r [.agg (nums .i64 os).toArray] [] [] ⟨⟨0, b1, 0, 31, nums .i64 os, rfl, rfl, (loadv_arr (U := U) (n := 32) (by kernel_rfl) (by kernel_rfl) (by first | rfl | omega | assumption | (simp; done)))⟩, trivial⟩ (by kernel_rfl) rfl ⟨os, rfl, rfl, (by rw [ho, show i = 4 by omega]; exact small_end hn2.1 hn2.2), (by exact hol)⟩
end Go.Proofs.Ytbnjcfhnbjaoiaa.Y2
