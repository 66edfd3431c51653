/- The law PolyEnds returns true whatever it is handed: its walk, on the contracts of what it calls. -/
import Derived.Test.YtoaoabnhkiijpaaRPure
import Derived.Test.YtoaoabnhkiijpaaProg
import Derived.Test.YtoaoabnhkiijpaaX1
import Derived.Test.YtoaoabnhkiijpaaX2
import Derived.Test.YtoaoabnhkiijpaaX3
import Derived.Test.YtoaoabnhkiijpaaX4
import Derived.Test.YtoaoabnhkiijpaaX5
import Derived.Test.YtoaoabnhkiijpaaX6
import Derived.Test.YtoaoabnhkiijpaaX7
import Derived.Test.YtoaoabnhkiijpaaX8
import Derived.Test.YtoaoabnhkiijpaaX9
import Derived.Test.YtoaoabnhkiijpaaY1
namespace Go.Proofs.Ytoaoabnhkiijpaa.LPolyEnds
open Go Go.Proofs.Ytoaoabnhkiijpaa.SL Go.Proofs.Ytoaoabnhkiijpaa.SL.W Go.Proofs.Ytoaoabnhkiijpaa.SL.Y Go.Proofs.Ytoaoabnhkiijpaa.X1 Go.Proofs.Ytoaoabnhkiijpaa.X2 Go.Proofs.Ytoaoabnhkiijpaa.X3 Go.Proofs.Ytoaoabnhkiijpaa.X4 Go.Proofs.Ytoaoabnhkiijpaa.X5 Go.Proofs.Ytoaoabnhkiijpaa.X6 Go.Proofs.Ytoaoabnhkiijpaa.X7 Go.Proofs.Ytoaoabnhkiijpaa.X8 Go.Proofs.Ytoaoabnhkiijpaa.X9 Go.Proofs.Ytoaoabnhkiijpaa.Y1
set_option linter.unusedVariables false
set_option linter.unusedSimpArgs false
set_option maxRecDepth 100000
set_option maxHeartbeats 40000000
def U : Tab where
  und := [(3, .int .i64), (5, .int .u8), (22, .slice 5), (25, .int .i64), (48, .array 2 5)]
  fld := []
  sz := [(3, 1), (5, 1), (22, 1), (25, 1), (48, 2)]
  ti := [(3, (1, 8, .int .i64 0)), (5, (1, 1, .int .u8 0)), (22, (1, 24, .slice none 0 0)), (25, (1, 8, .int .i64 0)), (48, (2, 2, .agg #[.int .u8 0, .int .u8 0]))]
  bld := []

theorem hU : U.OK Try.prog where
  und := by
    intro p hp
    simp only [U, List.mem_cons, List.not_mem_nil, or_false] at hp
    rcases hp with rfl | rfl | rfl | rfl | rfl
    · exact Try.underlying3
    · exact Try.underlying5
    · exact Try.underlying22
    · exact Try.underlying25
    · exact Try.underlying48
  fld := by
    intro p hp; cases hp
  sz := by
    intro p hp
    simp only [U, List.mem_cons, List.not_mem_nil, or_false] at hp
    rcases hp with rfl | rfl | rfl | rfl | rfl
    · exact ⟨Try.prog.types[3]!, by kernel_rfl, by kernel_rfl⟩
    · exact ⟨Try.prog.types[5]!, by kernel_rfl, by kernel_rfl⟩
    · exact ⟨Try.prog.types[22]!, by kernel_rfl, by kernel_rfl⟩
    · exact ⟨Try.prog.types[25]!, by kernel_rfl, by kernel_rfl⟩
    · exact ⟨Try.prog.types[48]!, by kernel_rfl, by kernel_rfl⟩
  ti := by
    intro p hp
    simp only [U, List.mem_cons, List.not_mem_nil, or_false] at hp
    rcases hp with rfl | rfl | rfl | rfl | rfl
    · exact ⟨Try.prog.types[3]!, by kernel_rfl, by kernel_rfl, by kernel_rfl, by kernel_rfl⟩
    · exact ⟨Try.prog.types[5]!, by kernel_rfl, by kernel_rfl, by kernel_rfl, by kernel_rfl⟩
    · exact ⟨Try.prog.types[22]!, by kernel_rfl, by kernel_rfl, by kernel_rfl, by kernel_rfl⟩
    · exact ⟨Try.prog.types[25]!, by kernel_rfl, by kernel_rfl, by kernel_rfl, by kernel_rfl⟩
    · exact ⟨Try.prog.types[48]!, by kernel_rfl, by kernel_rfl, by kernel_rfl, by kernel_rfl⟩
  bld := by
    intro p hp; cases hp
  mixed := by kernel_rfl

theorem l5_PolyEnds_spec (ks : List Int) (ms : List Int) (n : Int) (hk : In .u8 ks) (hkl : ks.length = 2) (hm : In .u8 ms) (hml : ms.length = 2) (hn : fits .u8 n) :
    CallsS Try.prog 12 [.agg (nums .u8 ks).toArray, .agg (nums .u8 ms).toArray, .int .u8 n] [] (fun r D => r = .bool true ∧ D = []) := by
  refine CallsS.enter hU Try.f12 _ [.tmp 6] 78 Try.func12 rfl (by decide) rfl rfl (by kernel_rfl) fun w0 W => ?_
  have hn2 := hn; simp only [fits] at hn2
  refine RunC.seq ?_
  refine RunC.region ?_
  refine RunR.step (dst := some 3) (op := .box 48 (.tmp 0)) (by kernel_rfl) (Step.box (.agg (nums .u8 ks).toArray) (by kernel_rfl) (by kernel_rfl) (fun b1 => ?_))
  refine RunR.step (dst := some 4) (op := .box 48 (.tmp 1)) (by kernel_rfl) (Step.box (.agg (nums .u8 ms).toArray) (by kernel_rfl) (by kernel_rfl) (fun b2 => ?_))
  refine RunR.sil hU [] 1 3 [2, 3, 4, 6] [(2, .int .u8 n), (3, .pointer (some ⟨b1, 0, none⟩)), (4, .pointer (some ⟨b2, 0, none⟩)), (6, .bool false)] ((True) ∧ True) rfl (by kernel_rfl) ⟨trivial, trivial⟩ ?_
  refine RunR.done (by kernel_rfl) ?_
  refine kseq_n ?_
  refine RunC.seq ?_
  refine RunC.seq ?_
  refine RunC.region ?_
  refine RunR.step (dst := some 17) (op := .call { callee := .value (.func 27), args := #[], argTypes := #[] }) (by kernel_rfl) (Step.call 27 [] (by kernel_rfl) (by kernel_rfl) [] [] [blk b2 48 (nums .u8 ms), blk b1 48 (nums .u8 ks)] (l5_awake_spec) [] (by kernel_rfl) (Lend.nil _) ?_)
  rintro _ _ ⟨rfl, rfl⟩
  refine RunR.sil hU [] 1 2 [2, 3, 4, 6, 18] [(2, .int .u8 n), (3, .pointer (some ⟨b1, 0, none⟩)), (4, .pointer (some ⟨b2, 0, none⟩)), (6, .bool false), (18, .bool false)] ((True) ∧ True) rfl (by kernel_rfl) ⟨trivial, trivial⟩ ?_
  refine RunR.done (by kernel_rfl) ?_
  refine kseq_n ?_
  refine RunC.cond (b := false) (by kernel_rfl) (fun h => by cases h) (fun _ => ?_)
  refine RunC.skip ?_
  refine kseq_n ?_
  refine RunC.seq ?_
  refine RunC.region ?_
  refine RunR.sil hU [] 1 1 [2, 3, 4, 6, 19] [(2, .int .u8 n), (3, .pointer (some ⟨b1, 0, none⟩)), (4, .pointer (some ⟨b2, 0, none⟩)), (6, .bool false), (19, .pointer (some ⟨b1, 0, none⟩))] ((0 ≤ (0 : Int) ∧ (0 : Int) < ((2 : Nat) : Int)) ∧ True) rfl (by kernel_rfl) ⟨(by omega), trivial⟩ ?_
  refine RunR.step (dst := some 20) (op := .load 5 (.tmp 19)) (by kernel_rfl) (Step.load_blknum hU 1 b1 (0) 48 0 .u8 ks rfl (by kernel_rfl) (by kernel_rfl) (by kernel_rfl) (by omega) (by first | omega | (simp only [List.length_cons, List.length_nil]; omega)) ?_)
  have hb3 : 0 ≤ ks.getD 0 0 ∧ ks.getD 0 0 < 256 := hk.at_ _
  refine RunR.sil hU [] 1 3 [2, 3, 4, 6, 7] [(2, .int .u8 n), (3, .pointer (some ⟨b1, 0, none⟩)), (4, .pointer (some ⟨b2, 0, none⟩)), (6, .bool false), (7, .int .u8 (ks.getD 0 0))] ((True) ∧ True) rfl (by kernel_rfl) ⟨trivial, trivial⟩ ?_
  refine RunR.done (by kernel_rfl) ?_
  refine kseq_n ?_
  refine RunC.seq ?_
  refine RunC.region ?_
  refine RunR.sil hU [] 1 1 [2, 4, 6, 7, 21] [(2, .int .u8 n), (4, .pointer (some ⟨b2, 0, none⟩)), (6, .bool false), (7, .int .u8 (ks.getD 0 0)), (21, .pointer (some ⟨b1, 1, none⟩))] ((0 ≤ (1 : Int) ∧ (1 : Int) < ((2 : Nat) : Int)) ∧ True) rfl (by kernel_rfl) ⟨(by omega), trivial⟩ ?_
  refine RunR.step (dst := some 22) (op := .load 5 (.tmp 21)) (by kernel_rfl) (Step.load_blknum hU 1 b1 (1) 48 1 .u8 ks rfl (by kernel_rfl) (by kernel_rfl) (by kernel_rfl) (by omega) (by first | omega | (simp only [List.length_cons, List.length_nil]; omega)) ?_)
  have hb4 : 0 ≤ ks.getD 1 0 ∧ ks.getD 1 0 < 256 := hk.at_ _
  refine RunR.sil hU [] 1 3 [2, 4, 6, 7, 8] [(2, .int .u8 n), (4, .pointer (some ⟨b2, 0, none⟩)), (6, .bool false), (7, .int .u8 (ks.getD 0 0)), (8, .int .u8 (ks.getD 1 0))] ((True) ∧ True) rfl (by kernel_rfl) ⟨trivial, trivial⟩ ?_
  refine RunR.done (by kernel_rfl) ?_
  refine kseq_n ?_
  refine RunC.seq ?_
  refine RunC.region ?_
  refine RunR.step (dst := some 23) (op := .makeSlice 22 (.const (.int .i64 32)) (.const (.int .i64 32))) (by kernel_rfl) (Step.make_nums hU 5 1 .u8 .i64 .i64 (32) rfl rfl (by kernel_rfl) (by kernel_rfl) (by omega) (by omega) (by kernel_rfl) (fun b5 => ?_))
  have hl6 : (List.replicate 32 (0 : Int)).length = 32 := List.length_replicate
  refine RunR.sil hU [] 1 2 [2, 4, 6, 7, 8, 9] [(2, .int .u8 n), (4, .pointer (some ⟨b2, 0, none⟩)), (6, .bool false), (7, .int .u8 (ks.getD 0 0)), (8, .int .u8 (ks.getD 1 0)), (9, .slice (some ⟨b5, 0, none⟩) 32 32)] ((True) ∧ True) rfl (by kernel_rfl) ⟨trivial, trivial⟩ ?_
  refine RunR.done (by kernel_rfl) ?_
  refine kseq_n ?_
  refine RunC.seq ?_
  refine RunC.seq ?_
  refine RunC.region ?_
  refine RunR.sil hU [] 1 1 [2, 4, 6, 7, 8, 9, 10] [(2, .int .u8 n), (4, .pointer (some ⟨b2, 0, none⟩)), (6, .bool false), (7, .int .u8 (ks.getD 0 0)), (8, .int .u8 (ks.getD 1 0)), (9, .slice (some ⟨b5, 0, none⟩) 32 32), (10, .int .i64 0)] ((True) ∧ True) rfl (by kernel_rfl) ⟨trivial, trivial⟩ ?_
  refine RunR.done (by kernel_rfl) ?_
  refine kseq_n ?_
  refine RunC.block ?_
  refine RunC.env [2, 4, 6, 7, 8, 9, 10] [(2, .int .u8 n), (4, .pointer (some ⟨b2, 0, none⟩)), (6, .bool false), (7, .int .u8 (ks.getD 0 0)), (8, .int .u8 (ks.getD 1 0)), (9, .slice (some ⟨b5, 0, none⟩) 32 32), (10, .int .i64 0)] (by kernel_rfl) ?_
  refine RunC.only [1, 0, 0] [blk b2 48 (nums .u8 ms), row 5 1 (.slice (some ⟨b5, 0, none⟩) 32 32) 32 (nums .u8 (List.replicate 32 (0 : Int))), blk b1 48 (nums .u8 ks)] (by kernel_rfl) ?_
  refine RunC.loop (σ := Nat) (fun n_ t_ D_ => ∃ (i : Int) (fs : List Int), (0 ≤ i) ∧ (i ≤ 16) ∧ (In .u8 fs) ∧ (fs.length = 32) ∧ n_ = ((16 - i).toNat : Nat) ∧ t_ = [(2, .int .u8 n), (4, .pointer (some ⟨b2, 0, none⟩)), (6, .bool false), (7, .int .u8 (ks.getD 0 0)), (8, .int .u8 (ks.getD 1 0)), (9, .slice (some ⟨b5, 0, none⟩) 32 32), (10, .int .i64 i)] ∧ D_ = [blk b2 48 (nums .u8 ms), row 5 1 (.slice (some ⟨b5, 0, none⟩) 32 32) 32 (nums .u8 fs), blk b1 48 (nums .u8 ks)]) id _ ⟨0, (List.replicate 32 (0 : Int)), (by first | assumption | omega | (simp only [List.length_append, List.length_cons, List.length_nil, List.length_set, List.length_replicate, List.length_take, List.length_drop]; omega) | (simp only [fits] at *; omega) | (simp only [List.length_append, List.length_cons, List.length_nil, List.length_set, List.length_replicate, List.length_take, List.length_drop] at *; omega) | (simp; done) | decide), (by first | assumption | omega | (simp only [List.length_append, List.length_cons, List.length_nil, List.length_set, List.length_replicate, List.length_take, List.length_drop]; omega) | (simp only [fits] at *; omega) | (simp only [List.length_append, List.length_cons, List.length_nil, List.length_set, List.length_replicate, List.length_take, List.length_drop] at *; omega) | (simp; done) | decide), (by exact In.replicate _ _), (by simp), rfl, rfl, rfl⟩ ?_
  rintro n_ _ _ ⟨i, fs, h0i, h1i, hi_fs, hl_fs, rfl, rfl, rfl⟩
  refine RunC.seq ?_
  refine RunC.seq ?_
  refine RunC.region ?_
  refine RunR.sil hU [] 2 2 [2, 4, 6, 7, 8, 9, 10, 25] [(2, .int .u8 n), (4, .pointer (some ⟨b2, 0, none⟩)), (6, .bool false), (7, .int .u8 (ks.getD 0 0)), (8, .int .u8 (ks.getD 1 0)), (9, .slice (some ⟨b5, 0, none⟩) 32 32), (10, .int .i64 i), (25, .bool (decide (i < 16)))] ((True) ∧ (True) ∧ True) rfl (by kernel_rfl) ⟨trivial, trivial, trivial⟩ ?_
  refine RunR.done (by kernel_rfl) ?_
  refine kseq_n ?_
  refine RunC.condp (i < 16) (by kernel_rfl) (fun h7 => ?_) (fun h7 => ?_)
  · skip
    refine RunC.skip ?_
    refine kseq_n ?_
    refine RunC.seq ?_
    refine RunC.block ?_
    refine RunC.seq ?_
    refine RunC.region ?_
    refine RunR.sil hU [] 4 4 [2, 4, 6, 7, 8, 9, 10, 30, 31] [(2, .int .u8 n), (4, .pointer (some ⟨b2, 0, none⟩)), (6, .bool false), (7, .int .u8 (ks.getD 0 0)), (8, .int .u8 (ks.getD 1 0)), (9, .slice (some ⟨b5, 0, none⟩) 32 32), (10, .int .i64 i), (30, .int .u8 (ks.getD 0 0)), (31, .pointer (elemAt (some ⟨b5, 0, none⟩) i 1))] ((True) ∧ (True) ∧ (True) ∧ ((0 ≤ i ∧ i < ((32 : Nat) : Int)) ∧ Option.isSome (some ⟨b5, 0, none⟩ : Option Addr) = true) ∧ True) rfl (by kernel_rfl) ⟨trivial, trivial, trivial, ⟨by omega, rfl⟩, trivial⟩ ?_
    refine RunR.step (dst := none) (op := .store 5 (.tmp 31) (.tmp 30)) (by kernel_rfl) (Step.store_num hU 1 5 32 32 (some ⟨b5, 0, none⟩) .u8 fs i (ks.getD 0 0) (by kernel_rfl) (by kernel_rfl) (by kernel_rfl) rfl (by omega) ?_)
    have hl8 : (fs.set (i).toNat (ks.getD 0 0)).length = fs.length := List.length_set
    refine RunR.done (by kernel_rfl) ?_
    refine kseq_n ?_
    refine RunC.region ?_
    refine RunR.sil hU [2] 5 5 [2, 4, 6, 7, 8, 9, 10, 35, 36] [(2, .int .u8 n), (4, .pointer (some ⟨b2, 0, none⟩)), (6, .bool false), (7, .int .u8 (ks.getD 0 0)), (8, .int .u8 (ks.getD 1 0)), (9, .slice (some ⟨b5, 0, none⟩) 32 32), (10, .int .i64 i), (35, .int .u8 (ks.getD 1 0)), (36, .pointer (elemAt (some ⟨b5, 0, none⟩) (16 + i) 1))] ((True) ∧ (True) ∧ (-9223372036854775808 ≤ (16 + i) ∧ (16 + i) < 9223372036854775808) ∧ (True) ∧ ((0 ≤ (16 + i) ∧ (16 + i) < ((32 : Nat) : Int)) ∧ Option.isSome (some ⟨b5, 0, none⟩ : Option Addr) = true) ∧ True) rfl (by kernel_rfl) ⟨trivial, trivial, (by omega), trivial, ⟨by omega, rfl⟩, trivial⟩ ?_
    refine RunR.step (dst := none) (op := .store 5 (.tmp 36) (.tmp 35)) (by kernel_rfl) (Step.store_num hU 0 5 32 32 (some ⟨b5, 0, none⟩) .u8 (fs.set (i).toNat (ks.getD 0 0)) (16 + i) (ks.getD 1 0) (by kernel_rfl) (by kernel_rfl) (by kernel_rfl) rfl (by omega) ?_)
    have hl9 : ((fs.set (i).toNat (ks.getD 0 0)).set (16 + i).toNat (ks.getD 1 0)).length = (fs.set (i).toNat (ks.getD 0 0)).length := List.length_set
    refine RunR.done (by kernel_rfl) ?_
    refine kblock_n ?_
    refine kseq_n ?_
    refine RunC.region ?_
    refine RunR.sil hU [1] 3 3 [2, 4, 6, 7, 8, 9, 10] [(2, .int .u8 n), (4, .pointer (some ⟨b2, 0, none⟩)), (6, .bool false), (7, .int .u8 (ks.getD 0 0)), (8, .int .u8 (ks.getD 1 0)), (9, .slice (some ⟨b5, 0, none⟩) 32 32), (10, .int .i64 (i + 1))] ((True) ∧ (-9223372036854775808 ≤ (i + 1) ∧ (i + 1) < 9223372036854775808) ∧ (True) ∧ True) rfl (by kernel_rfl) ⟨trivial, (by omega), trivial, trivial⟩ ?_
    refine RunR.done (by kernel_rfl) ?_
    refine kloop_n _ [2, 4, 6, 7, 8, 9, 10] [1, 0, 0] [(2, .int .u8 n), (4, .pointer (some ⟨b2, 0, none⟩)), (6, .bool false), (7, .int .u8 (ks.getD 0 0)), (8, .int .u8 (ks.getD 1 0)), (9, .slice (some ⟨b5, 0, none⟩) 32 32), (10, .int .i64 (i + 1))] [blk b2 48 (nums .u8 ms), row 5 1 (.slice (some ⟨b5, 0, none⟩) 32 32) 32 (nums .u8 ((fs.set (i).toNat (ks.getD 0 0)).set (16 + i).toNat (ks.getD 1 0))), blk b1 48 (nums .u8 ks)] (by kernel_rfl) (by kernel_rfl) ?_ ⟨(i + 1), ((fs.set (i).toNat (ks.getD 0 0)).set (16 + i).toNat (ks.getD 1 0)), (by first | assumption | omega | (simp only [List.length_append, List.length_cons, List.length_nil, List.length_set, List.length_replicate, List.length_take, List.length_drop]; omega) | (simp only [fits] at *; omega) | (simp only [List.length_append, List.length_cons, List.length_nil, List.length_set, List.length_replicate, List.length_take, List.length_drop] at *; omega) | (simp; done) | decide), (by first | assumption | omega | (simp only [List.length_append, List.length_cons, List.length_nil, List.length_set, List.length_replicate, List.length_take, List.length_drop]; omega) | (simp only [fits] at *; omega) | (simp only [List.length_append, List.length_cons, List.length_nil, List.length_set, List.length_replicate, List.length_take, List.length_drop] at *; omega) | (simp; done) | decide), (by exact (In.set (In.set hi_fs _ (by simp only [fits]; omega)) _ (by simp only [fits]; omega))), (by first | assumption | (simp only [List.length_set]; assumption)), rfl, (by first | rfl | simp only [List.length_set]), (by first | rfl | simp only [List.length_set])⟩
    show ((16 - (i + 1)).toNat : Nat) < ((16 - i).toNat : Nat)
    omega
  · skip
    refine RunC.exit ?_
    refine kseq_e ?_
    refine kloop_e ?_
    refine kblock_e ?_
    refine kseq_n ?_
    refine RunC.seq ?_
    refine RunC.region ?_
    refine RunR.sil hU [1] 2 2 [4, 6, 9, 38] [(4, .pointer (some ⟨b2, 0, none⟩)), (6, .bool false), (9, .slice (some ⟨b5, 0, none⟩) 32 32), (38, .int .i64 n)] ((True) ∧ (-9223372036854775808 ≤ n ∧ n < 9223372036854775808) ∧ True) rfl (by kernel_rfl) ⟨trivial, (by omega), trivial⟩ ?_
    refine RunR.step (dst := some 39) (op := .makeSlice 22 (.tmp 38) (.tmp 38)) (by kernel_rfl) (Step.make_nums hU 5 1 .u8 .i64 .i64 (n) rfl rfl (by kernel_rfl) (by kernel_rfl) (by omega) (by omega) (by kernel_rfl) (fun b10 => ?_))
    have hl11 : (List.replicate ((n).toNat) (0 : Int)).length = (n).toNat := List.length_replicate
    refine RunR.sil hU [] 1 4 [4, 6, 9, 11] [(4, .pointer (some ⟨b2, 0, none⟩)), (6, .bool false), (9, .slice (some ⟨b5, 0, none⟩) 32 32), (11, .slice (some ⟨b10, 0, none⟩) ((n).toNat) ((n).toNat))] ((True) ∧ True) rfl (by kernel_rfl) ⟨trivial, trivial⟩ ?_
    refine RunR.done (by kernel_rfl) ?_
    refine kseq_n ?_
    refine RunC.seq ?_
    refine RunC.seq ?_
    refine RunC.region ?_
    refine RunR.sil hU [] 1 1 [4, 6, 9, 11, 12] [(4, .pointer (some ⟨b2, 0, none⟩)), (6, .bool false), (9, .slice (some ⟨b5, 0, none⟩) 32 32), (11, .slice (some ⟨b10, 0, none⟩) ((n).toNat) ((n).toNat)), (12, .int .i64 0)] ((True) ∧ True) rfl (by kernel_rfl) ⟨trivial, trivial⟩ ?_
    refine RunR.done (by kernel_rfl) ?_
    refine kseq_n ?_
    refine RunC.block ?_
    refine RunC.env [4, 6, 9, 11, 12] [(4, .pointer (some ⟨b2, 0, none⟩)), (6, .bool false), (9, .slice (some ⟨b5, 0, none⟩) 32 32), (11, .slice (some ⟨b10, 0, none⟩) ((n).toNat) ((n).toNat)), (12, .int .i64 0)] (by kernel_rfl) ?_
    refine RunC.only [1, 1, 0, 0] [blk b2 48 (nums .u8 ms), row 5 1 (.slice (some ⟨b5, 0, none⟩) 32 32) 32 (nums .u8 fs), row 5 1 (.slice (some ⟨b10, 0, none⟩) ((n).toNat) ((n).toNat)) ((n).toNat) (nums .u8 (List.replicate ((n).toNat) (0 : Int))), blk b1 48 (nums .u8 ks)] (by kernel_rfl) ?_
    refine RunC.loop (σ := Nat) (fun n_ t_ D_ => ∃ (j : Int) (gs : List Int), (0 ≤ j) ∧ (j ≤ n) ∧ (In .u8 gs) ∧ (gs.length = n.toNat) ∧ n_ = ((n - j).toNat : Nat) ∧ t_ = [(4, .pointer (some ⟨b2, 0, none⟩)), (6, .bool false), (9, .slice (some ⟨b5, 0, none⟩) 32 32), (11, .slice (some ⟨b10, 0, none⟩) ((n).toNat) ((n).toNat)), (12, .int .i64 j)] ∧ D_ = [blk b2 48 (nums .u8 ms), row 5 1 (.slice (some ⟨b5, 0, none⟩) 32 32) 32 (nums .u8 fs), row 5 1 (.slice (some ⟨b10, 0, none⟩) ((n).toNat) ((n).toNat)) ((n).toNat) (nums .u8 gs), blk b1 48 (nums .u8 ks)]) id _ ⟨0, (List.replicate ((n).toNat) (0 : Int)), (by first | assumption | omega | (simp only [List.length_append, List.length_cons, List.length_nil, List.length_set, List.length_replicate, List.length_take, List.length_drop]; omega) | (simp only [fits] at *; omega) | (simp only [List.length_append, List.length_cons, List.length_nil, List.length_set, List.length_replicate, List.length_take, List.length_drop] at *; omega) | (simp; done) | decide), (by first | assumption | omega | (simp only [List.length_append, List.length_cons, List.length_nil, List.length_set, List.length_replicate, List.length_take, List.length_drop]; omega) | (simp only [fits] at *; omega) | (simp only [List.length_append, List.length_cons, List.length_nil, List.length_set, List.length_replicate, List.length_take, List.length_drop] at *; omega) | (simp; done) | decide), (by exact In.replicate _ _), (by simp), rfl, rfl, rfl⟩ ?_
    rintro n_ _ _ ⟨j, gs, h0j, h1j, hi_gs, hl_gs, rfl, rfl, rfl⟩
    refine RunC.seq ?_
    refine RunC.seq ?_
    refine RunC.region ?_
    refine RunR.sil hU [] 4 4 [4, 6, 9, 11, 12, 43] [(4, .pointer (some ⟨b2, 0, none⟩)), (6, .bool false), (9, .slice (some ⟨b5, 0, none⟩) 32 32), (11, .slice (some ⟨b10, 0, none⟩) ((n).toNat) ((n).toNat)), (12, .int .i64 j), (43, .bool (decide (j < (((n).toNat : Nat) : Int))))] ((True) ∧ (True) ∧ (True) ∧ (True) ∧ True) rfl (by kernel_rfl) ⟨trivial, trivial, trivial, trivial, trivial⟩ ?_
    refine RunR.done (by kernel_rfl) ?_
    refine kseq_n ?_
    refine RunC.condp (j < (((n).toNat : Nat) : Int)) (by kernel_rfl) (fun h12 => ?_) (fun h12 => ?_)
    · skip
      refine RunC.skip ?_
      refine kseq_n ?_
      refine RunC.seq ?_
      refine RunC.block ?_
      refine RunC.seq ?_
      refine RunC.region ?_
      refine RunR.sil hU [] 3 3 [4, 6, 9, 11, 12, 46, 47, 48] [(4, .pointer (some ⟨b2, 0, none⟩)), (6, .bool false), (9, .slice (some ⟨b5, 0, none⟩) 32 32), (11, .slice (some ⟨b10, 0, none⟩) ((n).toNat) ((n).toNat)), (12, .int .i64 j), (46, .slice (some ⟨b10, 0, none⟩) ((n).toNat) ((n).toNat)), (47, .int .i64 j), (48, .pointer (some ⟨b2, 0, none⟩))] ((True) ∧ (True) ∧ (0 ≤ (0 : Int) ∧ (0 : Int) < ((2 : Nat) : Int)) ∧ True) rfl (by kernel_rfl) ⟨trivial, trivial, (by omega), trivial⟩ ?_
      refine RunR.step (dst := some 49) (op := .load 5 (.tmp 48)) (by kernel_rfl) (Step.load_blknum hU 0 b2 (0) 48 0 .u8 ms rfl (by kernel_rfl) (by kernel_rfl) (by kernel_rfl) (by omega) (by first | omega | (simp only [List.length_cons, List.length_nil]; omega)) ?_)
      have hb13 : 0 ≤ ms.getD 0 0 ∧ ms.getD 0 0 < 256 := hm.at_ _
      refine RunR.sil hU [] 1 5 [4, 6, 9, 11, 12, 49, 50] [(4, .pointer (some ⟨b2, 0, none⟩)), (6, .bool false), (9, .slice (some ⟨b5, 0, none⟩) 32 32), (11, .slice (some ⟨b10, 0, none⟩) ((n).toNat) ((n).toNat)), (12, .int .i64 j), (49, .int .u8 (ms.getD 0 0)), (50, .pointer (elemAt (some ⟨b10, 0, none⟩) j 1))] (((0 ≤ j ∧ j < (((n).toNat : Nat) : Int)) ∧ Option.isSome (some ⟨b10, 0, none⟩ : Option Addr) = true) ∧ True) rfl (by kernel_rfl) ⟨⟨by omega, rfl⟩, trivial⟩ ?_
      refine RunR.step (dst := none) (op := .store 5 (.tmp 50) (.tmp 49)) (by kernel_rfl) (Step.store_num hU 2 5 ((n).toNat) ((n).toNat) (some ⟨b10, 0, none⟩) .u8 gs j (ms.getD 0 0) (by kernel_rfl) (by kernel_rfl) (by kernel_rfl) rfl (by omega) ?_)
      have hl14 : (gs.set (j).toNat (ms.getD 0 0)).length = gs.length := List.length_set
      refine RunR.done (by kernel_rfl) ?_
      refine kseq_n ?_
      refine RunC.seq ?_
      refine RunC.region ?_
      refine RunR.sil hU [1] 3 3 [4, 6, 9, 11, 12, 53] [(4, .pointer (some ⟨b2, 0, none⟩)), (6, .bool false), (9, .slice (some ⟨b5, 0, none⟩) 32 32), (11, .slice (some ⟨b10, 0, none⟩) ((n).toNat) ((n).toNat)), (12, .int .i64 j), (53, .bool (decide ((j % (16 : Int)) = 0)))] ((True) ∧ (0 ≤ j ∧ 0 < (16 : Int)) ∧ (True) ∧ True) rfl (by kernel_rfl) ⟨trivial, (by omega), trivial, trivial⟩ ?_
      refine RunR.done (by kernel_rfl) ?_
      refine kseq_n ?_
      refine RunC.condp ((j % (16 : Int)) = 0) (by kernel_rfl) (fun h15 => ?_) (fun h15 => ?_)
      · skip
        refine RunC.region ?_
        refine RunR.sil hU [] 3 3 [4, 6, 9, 11, 12, 54, 55, 56] [(4, .pointer (some ⟨b2, 0, none⟩)), (6, .bool false), (9, .slice (some ⟨b5, 0, none⟩) 32 32), (11, .slice (some ⟨b10, 0, none⟩) ((n).toNat) ((n).toNat)), (12, .int .i64 j), (54, .slice (some ⟨b10, 0, none⟩) ((n).toNat) ((n).toNat)), (55, .int .i64 j), (56, .pointer (some ⟨b2, 1, none⟩))] ((True) ∧ (True) ∧ (0 ≤ (1 : Int) ∧ (1 : Int) < ((2 : Nat) : Int)) ∧ True) rfl (by kernel_rfl) ⟨trivial, trivial, (by omega), trivial⟩ ?_
        refine RunR.step (dst := some 57) (op := .load 5 (.tmp 56)) (by kernel_rfl) (Step.load_blknum hU 1 b2 (1) 48 1 .u8 ms rfl (by kernel_rfl) (by kernel_rfl) (by kernel_rfl) (by omega) (by first | omega | (simp only [List.length_cons, List.length_nil]; omega)) ?_)
        have hb16 : 0 ≤ ms.getD 1 0 ∧ ms.getD 1 0 < 256 := hm.at_ _
        refine RunR.sil hU [] 1 5 [4, 6, 9, 11, 12, 57, 58] [(4, .pointer (some ⟨b2, 0, none⟩)), (6, .bool false), (9, .slice (some ⟨b5, 0, none⟩) 32 32), (11, .slice (some ⟨b10, 0, none⟩) ((n).toNat) ((n).toNat)), (12, .int .i64 j), (57, .int .u8 (ms.getD 1 0)), (58, .pointer (elemAt (some ⟨b10, 0, none⟩) j 1))] (((0 ≤ j ∧ j < (((n).toNat : Nat) : Int)) ∧ Option.isSome (some ⟨b10, 0, none⟩ : Option Addr) = true) ∧ True) rfl (by kernel_rfl) ⟨⟨by omega, rfl⟩, trivial⟩ ?_
        refine RunR.step (dst := none) (op := .store 5 (.tmp 58) (.tmp 57)) (by kernel_rfl) (Step.store_num hU 0 5 ((n).toNat) ((n).toNat) (some ⟨b10, 0, none⟩) .u8 (gs.set (j).toNat (ms.getD 0 0)) j (ms.getD 1 0) (by kernel_rfl) (by kernel_rfl) (by kernel_rfl) rfl (by omega) ?_)
        have hl17 : ((gs.set (j).toNat (ms.getD 0 0)).set (j).toNat (ms.getD 1 0)).length = (gs.set (j).toNat (ms.getD 0 0)).length := List.length_set
        refine RunR.done (by kernel_rfl) ?_
        refine kblock_n ?_
        refine kseq_n ?_
        refine RunC.region ?_
        refine RunR.sil hU [1] 3 3 [4, 6, 9, 11, 12] [(4, .pointer (some ⟨b2, 0, none⟩)), (6, .bool false), (9, .slice (some ⟨b5, 0, none⟩) 32 32), (11, .slice (some ⟨b10, 0, none⟩) ((n).toNat) ((n).toNat)), (12, .int .i64 (j + 1))] ((True) ∧ (-9223372036854775808 ≤ (j + 1) ∧ (j + 1) < 9223372036854775808) ∧ (True) ∧ True) rfl (by kernel_rfl) ⟨trivial, (by omega), trivial, trivial⟩ ?_
        refine RunR.done (by kernel_rfl) ?_
        refine kloop_n _ [4, 6, 9, 11, 12] [1, 1, 0, 0] [(4, .pointer (some ⟨b2, 0, none⟩)), (6, .bool false), (9, .slice (some ⟨b5, 0, none⟩) 32 32), (11, .slice (some ⟨b10, 0, none⟩) ((n).toNat) ((n).toNat)), (12, .int .i64 (j + 1))] [blk b2 48 (nums .u8 ms), row 5 1 (.slice (some ⟨b5, 0, none⟩) 32 32) 32 (nums .u8 fs), row 5 1 (.slice (some ⟨b10, 0, none⟩) ((n).toNat) ((n).toNat)) ((n).toNat) (nums .u8 ((gs.set (j).toNat (ms.getD 0 0)).set (j).toNat (ms.getD 1 0))), blk b1 48 (nums .u8 ks)] (by kernel_rfl) (by kernel_rfl) ?_ ⟨(j + 1), ((gs.set (j).toNat (ms.getD 0 0)).set (j).toNat (ms.getD 1 0)), (by first | assumption | omega | (simp only [List.length_append, List.length_cons, List.length_nil, List.length_set, List.length_replicate, List.length_take, List.length_drop]; omega) | (simp only [fits] at *; omega) | (simp only [List.length_append, List.length_cons, List.length_nil, List.length_set, List.length_replicate, List.length_take, List.length_drop] at *; omega) | (simp; done) | decide), (by first | assumption | omega | (simp only [List.length_append, List.length_cons, List.length_nil, List.length_set, List.length_replicate, List.length_take, List.length_drop]; omega) | (simp only [fits] at *; omega) | (simp only [List.length_append, List.length_cons, List.length_nil, List.length_set, List.length_replicate, List.length_take, List.length_drop] at *; omega) | (simp; done) | decide), (by repeat (first | exact hi_gs | refine In.set ?_ _ (by simp only [fits]; omega))), (by first | assumption | (simp only [List.length_set]; assumption)), rfl, (by first | rfl | simp only [List.length_set]), (by first | rfl | simp only [List.length_set])⟩
        show ((n - (j + 1)).toNat : Nat) < ((n - j).toNat : Nat)
        omega
      · skip
        refine RunC.skip ?_
        refine kblock_n ?_
        refine kseq_n ?_
        refine RunC.region ?_
        refine RunR.sil hU [1] 3 3 [4, 6, 9, 11, 12] [(4, .pointer (some ⟨b2, 0, none⟩)), (6, .bool false), (9, .slice (some ⟨b5, 0, none⟩) 32 32), (11, .slice (some ⟨b10, 0, none⟩) ((n).toNat) ((n).toNat)), (12, .int .i64 (j + 1))] ((True) ∧ (-9223372036854775808 ≤ (j + 1) ∧ (j + 1) < 9223372036854775808) ∧ (True) ∧ True) rfl (by kernel_rfl) ⟨trivial, (by omega), trivial, trivial⟩ ?_
        refine RunR.done (by kernel_rfl) ?_
        refine kloop_n _ [4, 6, 9, 11, 12] [1, 1, 0, 0] [(4, .pointer (some ⟨b2, 0, none⟩)), (6, .bool false), (9, .slice (some ⟨b5, 0, none⟩) 32 32), (11, .slice (some ⟨b10, 0, none⟩) ((n).toNat) ((n).toNat)), (12, .int .i64 (j + 1))] [blk b2 48 (nums .u8 ms), row 5 1 (.slice (some ⟨b5, 0, none⟩) 32 32) 32 (nums .u8 fs), row 5 1 (.slice (some ⟨b10, 0, none⟩) ((n).toNat) ((n).toNat)) ((n).toNat) (nums .u8 (gs.set (j).toNat (ms.getD 0 0))), blk b1 48 (nums .u8 ks)] (by kernel_rfl) (by kernel_rfl) ?_ ⟨(j + 1), (gs.set (j).toNat (ms.getD 0 0)), (by first | assumption | omega | (simp only [List.length_append, List.length_cons, List.length_nil, List.length_set, List.length_replicate, List.length_take, List.length_drop]; omega) | (simp only [fits] at *; omega) | (simp only [List.length_append, List.length_cons, List.length_nil, List.length_set, List.length_replicate, List.length_take, List.length_drop] at *; omega) | (simp; done) | decide), (by first | assumption | omega | (simp only [List.length_append, List.length_cons, List.length_nil, List.length_set, List.length_replicate, List.length_take, List.length_drop]; omega) | (simp only [fits] at *; omega) | (simp only [List.length_append, List.length_cons, List.length_nil, List.length_set, List.length_replicate, List.length_take, List.length_drop] at *; omega) | (simp; done) | decide), (by repeat (first | exact hi_gs | refine In.set ?_ _ (by simp only [fits]; omega))), (by first | assumption | (simp only [List.length_set]; assumption)), rfl, (by first | rfl | simp only [List.length_set]), (by first | rfl | simp only [List.length_set])⟩
        show ((n - (j + 1)).toNat : Nat) < ((n - j).toNat : Nat)
        omega
    · skip
      refine RunC.exit ?_
      refine kseq_e ?_
      refine kloop_e ?_
      refine kblock_e ?_
      refine kseq_n ?_
      refine RunC.seq ?_
      refine RunC.region ?_
      refine RunR.sil hU [] 2 2 [6, 9, 11, 60, 61] [(6, .bool false), (9, .slice (some ⟨b5, 0, none⟩) 32 32), (11, .slice (some ⟨b10, 0, none⟩) ((n).toNat) ((n).toNat)), (60, .slice (some ⟨b5, 0, none⟩) 32 32), (61, .slice (some ⟨b10, 0, none⟩) ((n).toNat) ((n).toNat))] ((True) ∧ (True) ∧ True) rfl (by kernel_rfl) ⟨trivial, trivial, trivial⟩ ?_
      refine RunR.step (dst := some 62) (op := .call { callee := .value (.func 28), args := #[.tmp 60, .tmp 61], argTypes := #[22, 22] }) (by kernel_rfl) (Step.call 28 [.slice (some ⟨b5, 0, none⟩) 32 32, .slice (some ⟨b10, 0, none⟩) ((n).toNat) ((n).toNat)] (by kernel_rfl) (by kernel_rfl) [] [vw (some ⟨b5, 0, none⟩) (nums .u8 fs), vw (some ⟨b10, 0, none⟩) (nums .u8 gs)] [blk b2 48 (nums .u8 ms), row 5 1 (.slice (some ⟨b5, 0, none⟩) 32 32) 32 (nums .u8 fs), row 5 1 (.slice (some ⟨b10, 0, none⟩) ((n).toNat) ((n).toNat)) ((n).toNat) (nums .u8 gs), blk b1 48 (nums .u8 ks)] (y_Tag_spec (some ⟨b5, 0, none⟩) 32 fs (some ⟨b10, 0, none⟩) ((n).toNat) gs 32 ((n).toNat) hi_fs (by first | assumption | omega | (simp only [List.length_append, List.length_cons, List.length_nil, List.length_set, List.length_replicate, List.length_take, List.length_drop]; omega) | (simp only [fits] at *; omega) | (simp only [List.length_append, List.length_cons, List.length_nil, List.length_set, List.length_replicate, List.length_take, List.length_drop] at *; omega) | (simp; done) | decide) hi_gs (by first | assumption | omega | (simp only [List.length_append, List.length_cons, List.length_nil, List.length_set, List.length_replicate, List.length_take, List.length_drop]; omega) | (simp only [fits] at *; omega) | (simp only [List.length_append, List.length_cons, List.length_nil, List.length_set, List.length_replicate, List.length_take, List.length_drop] at *; omega) | (simp; done) | decide) (by first | assumption | omega | (simp only [List.length_append, List.length_cons, List.length_nil, List.length_set, List.length_replicate, List.length_take, List.length_drop]; omega) | (simp only [fits] at *; omega) | (simp only [List.length_append, List.length_cons, List.length_nil, List.length_set, List.length_replicate, List.length_take, List.length_drop] at *; omega) | (simp; done) | decide) (by first | assumption | omega | (simp only [List.length_append, List.length_cons, List.length_nil, List.length_set, List.length_replicate, List.length_take, List.length_drop]; omega) | (simp only [fits] at *; omega) | (simp only [List.length_append, List.length_cons, List.length_nil, List.length_set, List.length_replicate, List.length_take, List.length_drop] at *; omega) | (simp; done) | decide) (by first | rfl | assumption | omega | (simp only [List.length_append, List.length_cons, List.length_nil, List.length_set, List.length_replicate, List.length_take, List.length_drop]; omega) | (simp; done)) (by first | rfl | assumption | omega | (simp only [List.length_append, List.length_cons, List.length_nil, List.length_set, List.length_replicate, List.length_take, List.length_drop]; omega) | (simp; done))) [] (by kernel_rfl) (((Lend.nil _).tells 2 (row 5 1 (.slice (some ⟨b10, 0, none⟩) ((n).toNat) ((n).toNat)) ((n).toNat) (nums .u8 gs)) (some ⟨b10, 0, none⟩) (nums .u8 gs) (by kernel_rfl) (tells_row _ _ _ _ _ _)).tells 1 (row 5 1 (.slice (some ⟨b5, 0, none⟩) 32 32) 32 (nums .u8 fs)) (some ⟨b5, 0, none⟩) (nums .u8 fs) (by kernel_rfl) (tells_row _ _ _ _ _ _)) ?_)
      rintro _ _ ⟨A218, c219, zs20, e21, rfl, rfl, hp22, hp23, hp24, hp25, hp26⟩
      refine RunR.sil hU [] 5 8 [6, 9, 11, 13, 14] [(6, .bool false), (9, .slice (some ⟨b5, 0, none⟩) 32 32), (11, .slice (some ⟨b10, 0, none⟩) ((n).toNat) ((n).toNat)), (13, .slice A218 zs20.length c219), (14, .int .i64 e21)] ((True) ∧ (True) ∧ (True) ∧ (True) ∧ (True) ∧ True) rfl (by kernel_rfl) ⟨trivial, trivial, trivial, trivial, trivial, trivial⟩ ?_
      refine RunR.done (by kernel_rfl) ?_
      refine kseq_n ?_
      refine RunC.seq ?_
      refine RunC.region ?_
      refine RunR.sil hU [] 2 2 [6, 13, 14, 66, 67] [(6, .bool false), (13, .slice A218 zs20.length c219), (14, .int .i64 e21), (66, .slice (some ⟨b5, 0, none⟩) 32 32), (67, .slice (some ⟨b10, 0, none⟩) ((n).toNat) ((n).toNat))] ((True) ∧ (True) ∧ True) rfl (by kernel_rfl) ⟨trivial, trivial, trivial⟩ ?_
      refine RunR.step (dst := some 68) (op := .call { callee := .value (.func 29), args := #[.tmp 66, .tmp 67], argTypes := #[22, 22] }) (by kernel_rfl) (Step.call 29 [.slice (some ⟨b5, 0, none⟩) 32 32, .slice (some ⟨b10, 0, none⟩) ((n).toNat) ((n).toNat)] (by kernel_rfl) (by kernel_rfl) [] [vw (some ⟨b5, 0, none⟩) (nums .u8 fs), vw (some ⟨b10, 0, none⟩) (nums .u8 gs)] [row 5 1 (.slice A218 zs20.length c219) zs20.length (nums .u8 zs20), blk b2 48 (nums .u8 ms), row 5 1 (.slice (some ⟨b5, 0, none⟩) 32 32) 32 (nums .u8 fs), row 5 1 (.slice (some ⟨b10, 0, none⟩) ((n).toNat) ((n).toNat)) ((n).toNat) (nums .u8 gs), blk b1 48 (nums .u8 ks)] (r_Tag_spec (some ⟨b5, 0, none⟩) 32 fs (some ⟨b10, 0, none⟩) ((n).toNat) gs 32 ((n).toNat) hi_fs (by first | assumption | omega | (simp only [List.length_append, List.length_cons, List.length_nil, List.length_set, List.length_replicate, List.length_take, List.length_drop]; omega) | (simp only [fits] at *; omega) | (simp only [List.length_append, List.length_cons, List.length_nil, List.length_set, List.length_replicate, List.length_take, List.length_drop] at *; omega) | (simp; done) | decide) hi_gs (by first | assumption | omega | (simp only [List.length_append, List.length_cons, List.length_nil, List.length_set, List.length_replicate, List.length_take, List.length_drop]; omega) | (simp only [fits] at *; omega) | (simp only [List.length_append, List.length_cons, List.length_nil, List.length_set, List.length_replicate, List.length_take, List.length_drop] at *; omega) | (simp; done) | decide) (by first | assumption | omega | (simp only [List.length_append, List.length_cons, List.length_nil, List.length_set, List.length_replicate, List.length_take, List.length_drop]; omega) | (simp only [fits] at *; omega) | (simp only [List.length_append, List.length_cons, List.length_nil, List.length_set, List.length_replicate, List.length_take, List.length_drop] at *; omega) | (simp; done) | decide) (by first | assumption | omega | (simp only [List.length_append, List.length_cons, List.length_nil, List.length_set, List.length_replicate, List.length_take, List.length_drop]; omega) | (simp only [fits] at *; omega) | (simp only [List.length_append, List.length_cons, List.length_nil, List.length_set, List.length_replicate, List.length_take, List.length_drop] at *; omega) | (simp; done) | decide) (by first | rfl | assumption | omega | (simp only [List.length_append, List.length_cons, List.length_nil, List.length_set, List.length_replicate, List.length_take, List.length_drop]; omega) | (simp; done)) (by first | rfl | assumption | omega | (simp only [List.length_append, List.length_cons, List.length_nil, List.length_set, List.length_replicate, List.length_take, List.length_drop]; omega) | (simp; done))) [] (by kernel_rfl) (((Lend.nil _).tells 3 (row 5 1 (.slice (some ⟨b10, 0, none⟩) ((n).toNat) ((n).toNat)) ((n).toNat) (nums .u8 gs)) (some ⟨b10, 0, none⟩) (nums .u8 gs) (by kernel_rfl) (tells_row _ _ _ _ _ _)).tells 2 (row 5 1 (.slice (some ⟨b5, 0, none⟩) 32 32) 32 (nums .u8 fs)) (some ⟨b5, 0, none⟩) (nums .u8 fs) (by kernel_rfl) (tells_row _ _ _ _ _ _)) ?_)
      rintro _ _ ⟨A227, c228, zs29, e30, rfl, rfl, hp31, hp32, hp33, hp34, hp35⟩
      refine RunR.sil hU [] 5 8 [6, 13, 14, 15] [(6, .bool false), (13, .slice A218 zs20.length c219), (14, .int .i64 e21), (15, .slice A227 zs29.length c228)] ((True) ∧ (True) ∧ (True) ∧ (True) ∧ (True) ∧ True) rfl (by kernel_rfl) ⟨trivial, trivial, trivial, trivial, trivial, trivial⟩ ?_
      refine RunR.done (by kernel_rfl) ?_
      refine kseq_n ?_
      refine RunC.seq ?_
      refine RunC.region ?_
      refine RunR.sil hU [] 3 3 [6, 13, 15, 73] [(6, .bool false), (13, .slice A218 zs20.length c219), (15, .slice A227 zs29.length c228), (73, .bool (decide (e21 = 0)))] ((True) ∧ (True) ∧ (True) ∧ True) rfl (by kernel_rfl) ⟨trivial, trivial, trivial, trivial⟩ ?_
      refine RunR.env [6, 13, 15, 73] [(6, .bool false), (13, .slice A218 zs20.length c219), (15, .slice A227 zs29.length c228), (73, .bool (decide (e21 = 0)))] (by kernel_rfl) ?_
      have hk36 : (e21 = 0) := by simp only [hp22, hp23, hp31, hp32]; rw [codeL, if_pos (by first | omega | assumption)]
      refine RunR.enveq [(6, .bool false), (13, .slice A218 zs20.length c219), (15, .slice A227 zs29.length c228), (73, .bool true)] (by rw [decide_eq_true hk36]; try rfl) ?_
      refine RunR.sil hU [] 2 5 [6, 73, 74, 75] [(6, .bool false), (73, .bool true), (74, .slice A218 zs20.length c219), (75, .slice A227 zs29.length c228)] ((True) ∧ (True) ∧ True) rfl (by kernel_rfl) ⟨trivial, trivial, trivial⟩ ?_
      refine RunR.step (dst := some 76) (op := .call { callee := .value (.func 17), args := #[.tmp 74, .tmp 75], argTypes := #[22, 22] }) (by kernel_rfl) (Step.call 17 [.slice A218 zs20.length c219, .slice A227 zs29.length c228] (by kernel_rfl) (by kernel_rfl) [] [vw A218 (nums .u8 zs20), vw A227 (nums .u8 zs29)] [row 5 1 (.slice A227 zs29.length c228) zs29.length (nums .u8 zs29), row 5 1 (.slice A218 zs20.length c219) zs20.length (nums .u8 zs20), blk b2 48 (nums .u8 ms), row 5 1 (.slice (some ⟨b5, 0, none⟩) 32 32) 32 (nums .u8 fs), row 5 1 (.slice (some ⟨b10, 0, none⟩) ((n).toNat) ((n).toNat)) ((n).toNat) (nums .u8 gs), blk b1 48 (nums .u8 ks)] (r_Equal_spec A218 c219 zs20 A227 c228 zs29 zs20.length zs29.length hp24 (by simp only [hp22, hp23, hp31, hp32]; exact tagL_le _ _) hp33 (by simp only [hp22, hp23, hp31, hp32]; exact tagL_le _ _) (by first | rfl | assumption | omega | (simp only [List.length_append, List.length_cons, List.length_nil, List.length_set, List.length_replicate, List.length_take, List.length_drop]; omega) | (simp; done)) (by first | rfl | assumption | omega | (simp only [List.length_append, List.length_cons, List.length_nil, List.length_set, List.length_replicate, List.length_take, List.length_drop]; omega) | (simp; done))) [] (by kernel_rfl) (((Lend.nil _).tells 0 (row 5 1 (.slice A227 zs29.length c228) zs29.length (nums .u8 zs29)) A227 (nums .u8 zs29) (by kernel_rfl) (tells_row _ _ _ _ _ _)).tells 1 (row 5 1 (.slice A218 zs20.length c219) zs20.length (nums .u8 zs20)) A218 (nums .u8 zs20) (by kernel_rfl) (tells_row _ _ _ _ _ _)) ?_)
      rintro _ _ ⟨rfl, rfl⟩
      refine RunR.sil hU [] 2 8 [6] [(6, .bool (decide (zs20 = zs29)))] ((True) ∧ (True) ∧ True) rfl (by kernel_rfl) ⟨trivial, trivial, trivial⟩ ?_
      refine RunR.env [6] [(6, .bool (decide (zs20 = zs29)))] (by kernel_rfl) ?_
      have hk37 : (zs20 = zs29) := by simp only [hp22, hp23, hp31, hp32]
      refine RunR.enveq [(6, .bool true)] (by rw [decide_eq_true hk37]; try rfl) ?_
      refine RunR.done (by kernel_rfl) ?_
      refine kseq_n ?_
      refine RunC.ret ?_
      refine kret_r [.bool true] [] [] ⟨rfl, trivial⟩ (by kernel_rfl) rfl ⟨rfl, rfl⟩
end Go.Proofs.Ytoaoabnhkiijpaa.LPolyEnds
