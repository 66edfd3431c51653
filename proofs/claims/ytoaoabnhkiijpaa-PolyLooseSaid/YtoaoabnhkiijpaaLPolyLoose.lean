/- The law PolyLoose returns true whatever it is handed: its walk, on the contracts of what it calls. -/
import Derived.Test.YtoaoabnhkiijpaaTPure
import Derived.Test.YtoaoabnhkiijpaaRPure
import Derived.Test.YtoaoabnhkiijpaaProg
import Derived.Test.YtoaoabnhkiijpaaX1
import Derived.Test.YtoaoabnhkiijpaaX2
import Derived.Test.YtoaoabnhkiijpaaX3
import Derived.Test.YtoaoabnhkiijpaaX4
import Derived.Test.YtoaoabnhkiijpaaX5
import Derived.Test.YtoaoabnhkiijpaaX6
import Derived.Test.YtoaoabnhkiijpaaX7
import Derived.Test.YtoaoabnhkiijpaaX8
import Derived.Test.YtoaoabnhkiijpaaX9
import Derived.Test.YtoaoabnhkiijpaaY1
namespace Go.Proofs.Ytoaoabnhkiijpaa.LPolyLoose
open Go Go.Proofs.Ytoaoabnhkiijpaa.SL Go.Proofs.Ytoaoabnhkiijpaa.SL.W Go.Proofs.Ytoaoabnhkiijpaa.SL.Y Go.Proofs.Ytoaoabnhkiijpaa.X1 Go.Proofs.Ytoaoabnhkiijpaa.X2 Go.Proofs.Ytoaoabnhkiijpaa.X3 Go.Proofs.Ytoaoabnhkiijpaa.X4 Go.Proofs.Ytoaoabnhkiijpaa.X5 Go.Proofs.Ytoaoabnhkiijpaa.X6 Go.Proofs.Ytoaoabnhkiijpaa.X7 Go.Proofs.Ytoaoabnhkiijpaa.X8 Go.Proofs.Ytoaoabnhkiijpaa.X9 Go.Proofs.Ytoaoabnhkiijpaa.Y1
set_option linter.unusedVariables false
set_option linter.unusedSimpArgs false
set_option maxRecDepth 100000
set_option maxHeartbeats 40000000
def U : Tab where
  und := [(3, .int .i64), (5, .int .u8), (22, .slice 5), (25, .int .i64), (31, .array 32 5), (52, .array 7 5)]
  fld := []
  sz := [(3, 1), (5, 1), (22, 1), (25, 1), (31, 32), (52, 7)]
  ti := [(3, (1, 8, .int .i64 0)), (5, (1, 1, .int .u8 0)), (22, (1, 24, .slice none 0 0)), (25, (1, 8, .int .i64 0)), (31, (32, 32, .agg #[.int .u8 0, .int .u8 0, .int .u8 0, .int .u8 0, .int .u8 0, .int .u8 0, .int .u8 0, .int .u8 0, .int .u8 0, .int .u8 0, .int .u8 0, .int .u8 0, .int .u8 0, .int .u8 0, .int .u8 0, .int .u8 0, .int .u8 0, .int .u8 0, .int .u8 0, .int .u8 0, .int .u8 0, .int .u8 0, .int .u8 0, .int .u8 0, .int .u8 0, .int .u8 0, .int .u8 0, .int .u8 0, .int .u8 0, .int .u8 0, .int .u8 0, .int .u8 0])), (52, (7, 7, .agg #[.int .u8 0, .int .u8 0, .int .u8 0, .int .u8 0, .int .u8 0, .int .u8 0, .int .u8 0]))]
  bld := []

theorem hU : U.OK Try.prog where
  und := by
    intro p hp
    simp only [U, List.mem_cons, List.not_mem_nil, or_false] at hp
    rcases hp with rfl | rfl | rfl | rfl | rfl | rfl
    · exact Try.underlying3
    · exact Try.underlying5
    · exact Try.underlying22
    · exact Try.underlying25
    · exact Try.underlying31
    · exact Try.underlying52
  fld := by
    intro p hp; cases hp
  sz := by
    intro p hp
    simp only [U, List.mem_cons, List.not_mem_nil, or_false] at hp
    rcases hp with rfl | rfl | rfl | rfl | rfl | rfl
    · exact ⟨Try.prog.types[3]!, by kernel_rfl, by kernel_rfl⟩
    · exact ⟨Try.prog.types[5]!, by kernel_rfl, by kernel_rfl⟩
    · exact ⟨Try.prog.types[22]!, by kernel_rfl, by kernel_rfl⟩
    · exact ⟨Try.prog.types[25]!, by kernel_rfl, by kernel_rfl⟩
    · exact ⟨Try.prog.types[31]!, by kernel_rfl, by kernel_rfl⟩
    · exact ⟨Try.prog.types[52]!, by kernel_rfl, by kernel_rfl⟩
  ti := by
    intro p hp
    simp only [U, List.mem_cons, List.not_mem_nil, or_false] at hp
    rcases hp with rfl | rfl | rfl | rfl | rfl | rfl
    · exact ⟨Try.prog.types[3]!, by kernel_rfl, by kernel_rfl, by kernel_rfl, by kernel_rfl⟩
    · exact ⟨Try.prog.types[5]!, by kernel_rfl, by kernel_rfl, by kernel_rfl, by kernel_rfl⟩
    · exact ⟨Try.prog.types[22]!, by kernel_rfl, by kernel_rfl, by kernel_rfl, by kernel_rfl⟩
    · exact ⟨Try.prog.types[25]!, by kernel_rfl, by kernel_rfl, by kernel_rfl, by kernel_rfl⟩
    · exact ⟨Try.prog.types[31]!, by kernel_rfl, by kernel_rfl, by kernel_rfl, by kernel_rfl⟩
    · exact ⟨Try.prog.types[52]!, by kernel_rfl, by kernel_rfl, by kernel_rfl, by kernel_rfl⟩
  bld := by
    intro p hp; cases hp
  mixed := by kernel_rfl

theorem l5_PolyLoose_spec (ks : List Int) (M : Option Addr) (d : Nat) (ys : List Int) (ts : List Int) (l_ys : Nat) (hk : In .u8 ks) (hkl : ks.length = 32) (hy : In .u8 ys) (hm : ys.length ≤ 140737488351232) (hld : ys.length ≤ d) (ht : In .u8 ts) (htl : ts.length = 7) (hl_ys : ys.length = l_ys) :
    CallsS Try.prog 14 [.agg (nums .u8 ks).toArray, .slice M l_ys d, .agg (nums .u8 ts).toArray] [vw M (nums .u8 ys)] (fun r D => r = .bool true ∧ D = []) := by
  subst hl_ys
  refine CallsS.enter hU Try.f14 _ [.tmp 6] 81 Try.func14 rfl (by decide) rfl rfl (by kernel_rfl) fun w0 W => ?_
  refine RunC.know (p := 0 < ys.length → Option.isSome M = true) (fun _ _ w hs => vw_some hs 0 rfl (by simp [nums_length])) (fun hA1 => ?_)
  refine RunC.seq ?_
  refine RunC.region ?_
  refine RunR.step (dst := some 3) (op := .box 31 (.tmp 0)) (by kernel_rfl) (Step.box (.agg (nums .u8 ks).toArray) (by kernel_rfl) (by kernel_rfl) (fun b2 => ?_))
  refine RunR.step (dst := some 5) (op := .box 52 (.tmp 2)) (by kernel_rfl) (Step.box (.agg (nums .u8 ts).toArray) (by kernel_rfl) (by kernel_rfl) (fun b3 => ?_))
  refine RunR.sil hU [] 1 3 [1, 3, 5, 6] [(1, .slice M ys.length d), (3, .pointer (some ⟨b2, 0, none⟩)), (5, .pointer (some ⟨b3, 0, none⟩)), (6, .bool false)] ((True) ∧ True) rfl (by kernel_rfl) ⟨trivial, trivial⟩ ?_
  refine RunR.done (by kernel_rfl) ?_
  refine kseq_n ?_
  refine RunC.seq ?_
  refine RunC.seq ?_
  refine RunC.region ?_
  refine RunR.step (dst := some 14) (op := .call { callee := .value (.func 27), args := #[], argTypes := #[] }) (by kernel_rfl) (Step.call 27 [] (by kernel_rfl) (by kernel_rfl) [] [] [blk b3 52 (nums .u8 ts), blk b2 31 (nums .u8 ks), vw M (nums .u8 ys)] (l5_awake_spec) [] (by kernel_rfl) (Lend.nil _) ?_)
  rintro _ _ ⟨rfl, rfl⟩
  refine RunR.sil hU [] 1 2 [1, 3, 5, 6, 15] [(1, .slice M ys.length d), (3, .pointer (some ⟨b2, 0, none⟩)), (5, .pointer (some ⟨b3, 0, none⟩)), (6, .bool false), (15, .bool false)] ((True) ∧ True) rfl (by kernel_rfl) ⟨trivial, trivial⟩ ?_
  refine RunR.done (by kernel_rfl) ?_
  refine kseq_n ?_
  refine RunC.cond (b := false) (by kernel_rfl) (fun h => by cases h) (fun _ => ?_)
  refine RunC.skip ?_
  refine kseq_n ?_
  refine RunC.seq ?_
  refine RunC.seq ?_
  refine RunC.region ?_
  refine RunR.sil hU [] 3 3 [1, 3, 5, 6, 18] [(1, .slice M ys.length d), (3, .pointer (some ⟨b2, 0, none⟩)), (5, .pointer (some ⟨b3, 0, none⟩)), (6, .bool false), (18, .bool (decide (((ys.length : Nat) : Int) > 2048)))] ((True) ∧ (True) ∧ (True) ∧ True) rfl (by kernel_rfl) ⟨trivial, trivial, trivial, trivial⟩ ?_
  refine RunR.done (by kernel_rfl) ?_
  refine kseq_n ?_
  refine RunC.condp (((ys.length : Nat) : Int) > 2048) (by kernel_rfl) (fun h4 => ?_) (fun h4 => ?_)
  · skip
    refine RunC.seq ?_
    refine RunC.region ?_
    refine RunR.sil hU [] 1 1 [1, 3, 5, 6] [(1, .slice M ys.length d), (3, .pointer (some ⟨b2, 0, none⟩)), (5, .pointer (some ⟨b3, 0, none⟩)), (6, .bool true)] ((True) ∧ True) rfl (by kernel_rfl) ⟨trivial, trivial⟩ ?_
    refine RunR.done (by kernel_rfl) ?_
    refine kseq_n ?_
    refine RunC.ret ?_
    refine kseq_r ?_
    refine kret_r [.bool true] [] [] ⟨rfl, trivial⟩ (by kernel_rfl) rfl ⟨rfl, rfl⟩
  · skip
    refine RunC.skip ?_
    refine kseq_n ?_
    refine RunC.seq ?_
    refine RunC.region ?_
    refine RunR.step (dst := some 19) (op := .load 31 (.tmp 3)) (by kernel_rfl) (Step.load_arr hU 1 b2 31 32 .u8 ks (by kernel_rfl) (by kernel_rfl) (by kernel_rfl) (by kernel_rfl) (by first | rfl | omega | (simp; done)) (by kernel_rfl) ?_)
    refine RunR.step (dst := some 7) (op := .alloc 31) (by kernel_rfl) (Step.alloc hU 32 32 (.agg #[.int .u8 0, .int .u8 0, .int .u8 0, .int .u8 0, .int .u8 0, .int .u8 0, .int .u8 0, .int .u8 0, .int .u8 0, .int .u8 0, .int .u8 0, .int .u8 0, .int .u8 0, .int .u8 0, .int .u8 0, .int .u8 0, .int .u8 0, .int .u8 0, .int .u8 0, .int .u8 0, .int .u8 0, .int .u8 0, .int .u8 0, .int .u8 0, .int .u8 0, .int .u8 0, .int .u8 0, .int .u8 0, .int .u8 0, .int .u8 0, .int .u8 0, .int .u8 0]) rfl (by kernel_rfl) (fun b5 => ?_))
    have hl6 : (List.replicate 32 (0 : Int)).length = 32 := List.length_replicate
    refine RunR.step (dst := none) (op := .store 31 (.tmp 7) (.tmp 19)) (by kernel_rfl) (Step.store_arr hU 0 b5 31 32 .u8 (List.replicate 32 (0 : Int)) ks (by kernel_rfl) (by kernel_rfl) (by kernel_rfl) (by kernel_rfl) (by first | rfl | omega | (simp; done)) (by first | rfl | omega | (simp; done)) ?_)
    refine RunR.done (by kernel_rfl) ?_
    refine kseq_n ?_
    refine RunC.seq ?_
    refine RunC.seq ?_
    refine RunC.region ?_
    refine RunR.sil hU [] 1 1 [1, 3, 5, 6, 7, 8] [(1, .slice M ys.length d), (3, .pointer (some ⟨b2, 0, none⟩)), (5, .pointer (some ⟨b3, 0, none⟩)), (6, .bool false), (7, .pointer (some ⟨b5, 0, none⟩)), (8, .int .i64 0)] ((True) ∧ True) rfl (by kernel_rfl) ⟨trivial, trivial⟩ ?_
    refine RunR.done (by kernel_rfl) ?_
    refine kseq_n ?_
    refine RunC.block ?_
    refine RunC.env [1, 3, 5, 6, 7, 8] [(1, .slice M ys.length d), (3, .pointer (some ⟨b2, 0, none⟩)), (5, .pointer (some ⟨b3, 0, none⟩)), (6, .bool false), (7, .pointer (some ⟨b5, 0, none⟩)), (8, .int .i64 0)] (by kernel_rfl) ?_
    refine RunC.only [2, 1, 0, 0] [blk b2 31 (nums .u8 ks), blk b3 52 (nums .u8 ts), blk b5 31 (nums .u8 ks), vw M (nums .u8 ys)] (by kernel_rfl) ?_
    refine RunC.loop (σ := Nat) (fun n_ t_ D_ => ∃ (i : Int) (os : List Int), (0 ≤ i) ∧ (i ≤ 4) ∧ (In .u8 os) ∧ (os.length = 32) ∧ (KL os ks) ∧ n_ = ((4 - i).toNat : Nat) ∧ t_ = [(1, .slice M ys.length d), (3, .pointer (some ⟨b2, 0, none⟩)), (5, .pointer (some ⟨b3, 0, none⟩)), (6, .bool false), (7, .pointer (some ⟨b5, 0, none⟩)), (8, .int .i64 i)] ∧ D_ = [blk b2 31 (nums .u8 ks), blk b3 52 (nums .u8 ts), blk b5 31 (nums .u8 os), vw M (nums .u8 ys)]) id _ ⟨0, ks, (by first | assumption | omega | (simp only [List.length_append, List.length_cons, List.length_nil, List.length_set, List.length_replicate, List.length_take, List.length_drop]; omega) | (simp only [fits] at *; omega) | (simp only [List.length_append, List.length_cons, List.length_nil, List.length_set, List.length_replicate, List.length_take, List.length_drop] at *; omega) | (simp; done) | decide), (by first | assumption | omega | (simp only [List.length_append, List.length_cons, List.length_nil, List.length_set, List.length_replicate, List.length_take, List.length_drop]; omega) | (simp only [fits] at *; omega) | (simp only [List.length_append, List.length_cons, List.length_nil, List.length_set, List.length_replicate, List.length_take, List.length_drop] at *; omega) | (simp; done) | decide), (by exact hk), (by exact hkl), (by exact ⟨rfl, rfl, hkl⟩), rfl, rfl, rfl⟩ ?_
    rintro n_ _ _ ⟨i, os, h0i, h1i, hoi, hol, hK, rfl, rfl, rfl⟩
    refine RunC.seq ?_
    refine RunC.seq ?_
    refine RunC.region ?_
    refine RunR.sil hU [] 2 2 [1, 3, 5, 6, 7, 8, 21] [(1, .slice M ys.length d), (3, .pointer (some ⟨b2, 0, none⟩)), (5, .pointer (some ⟨b3, 0, none⟩)), (6, .bool false), (7, .pointer (some ⟨b5, 0, none⟩)), (8, .int .i64 i), (21, .bool (decide (i < 4)))] ((True) ∧ (True) ∧ True) rfl (by kernel_rfl) ⟨trivial, trivial, trivial⟩ ?_
    refine RunR.done (by kernel_rfl) ?_
    refine kseq_n ?_
    refine RunC.condp (i < 4) (by kernel_rfl) (fun h7 => ?_) (fun h7 => ?_)
    · skip
      refine RunC.skip ?_
      refine kseq_n ?_
      refine RunC.seq ?_
      refine RunC.block ?_
      refine RunC.regionU hU 16 [blk b5 31 (nums .u8 os), blk b3 52 (nums .u8 ts)] [2, 1] [14, 15] (bm 16 0) (by kernel_rfl) (by kernel_rfl) (by kernel_rfl) ?_
      refine RunU.sil hU false 0 (bm 16 1) 24 (.int .i64 i) (True) (by kernel_rfl) trivial (by kernel_rfl) (by kernel_rfl) (fun _ _ _ h => h) ?_
      refine RunU.sil hU true 1 (bm 16 3) 25 (.int .i64 (4 * i)) (-9223372036854775808 ≤ (4 * i) ∧ (4 * i) < 9223372036854775808) (by kernel_rfl) (by omega) (by kernel_rfl) (by kernel_rfl) (fun _ _ _ h => h) ?_
      refine RunU.sil hU true 2 (bm 16 7) 26 (.int .i64 ((4 * i) + 3)) (-9223372036854775808 ≤ ((4 * i) + 3) ∧ ((4 * i) + 3) < 9223372036854775808) (by kernel_rfl) (by omega) (by kernel_rfl) (by kernel_rfl) (fun _ _ _ h => h) ?_
      refine RunU.sil hU false 3 (bm 16 15) 27 (.int .i64 i) (True) (by kernel_rfl) trivial (by kernel_rfl) (by kernel_rfl) (fun _ _ _ h => h) ?_
      refine RunU.sil hU true 4 (bm 16 31) 28 (.int .i64 (4 * i)) (-9223372036854775808 ≤ (4 * i) ∧ (4 * i) < 9223372036854775808) (by kernel_rfl) (by omega) (by kernel_rfl) (by kernel_rfl) (fun _ _ _ h => h) ?_
      refine RunU.sil hU true 5 (bm 16 63) 29 (.int .i64 ((4 * i) + 3)) (-9223372036854775808 ≤ ((4 * i) + 3) ∧ ((4 * i) + 3) < 9223372036854775808) (by kernel_rfl) (by omega) (by kernel_rfl) (by kernel_rfl) (fun _ _ _ h => h) ?_
      refine RunU.sil hU false 6 (bm 16 127) 30 (.pointer (some ⟨b5, 0 + ((4 * i) + 3).toNat * 1, none⟩)) (0 ≤ ((4 * i) + 3) ∧ ((4 * i) + 3) < ((32 : Nat) : Int)) (by kernel_rfl) (by omega) (by kernel_rfl) (by kernel_rfl) (fun _ _ _ h => h) ?_
      refine RunU.read 7 (bm 16 255) 31 (.load 5 (.tmp 30)) (.int .u8 (os.getD (((4 * i) + 3).toNat) 0)) [2, 1] (by kernel_rfl) (Reads.load_blknum hU 0 b5 (0 + ((4 * i) + 3).toNat * 1) 31 (((4 * i) + 3).toNat) .u8 os rfl (by kernel_rfl) (by kernel_rfl) (by omega) (by first | omega | (simp only [List.length_cons, List.length_nil]; omega))) (by kernel_rfl) (by kernel_rfl) (by kernel_rfl) (by kernel_rfl) (fun _ _ _ h => h) ?_
      have hb8 : 0 ≤ os.getD (((4 * i) + 3).toNat) 0 ∧ os.getD (((4 * i) + 3).toNat) 0 < 256 := hoi.at_ _
      refine RunU.sil hU false 8 (bm 16 511) 32 (.int .i64 i) (True) (by kernel_rfl) trivial (by kernel_rfl) (by kernel_rfl) (fun _ _ _ h => h) ?_
      refine RunU.sil hU false 9 (bm 16 1023) 33 (.pointer (some ⟨b3, 0 + (i).toNat * 1, none⟩)) (0 ≤ i ∧ i < ((7 : Nat) : Int)) (by kernel_rfl) (by omega) (by kernel_rfl) (by kernel_rfl) (fun _ _ _ h => h) ?_
      refine RunU.read 10 (bm 16 2047) 34 (.load 5 (.tmp 33)) (.int .u8 (ts.getD ((i).toNat) 0)) [2, 1] (by kernel_rfl) (Reads.load_blknum hU 1 b3 (0 + (i).toNat * 1) 52 ((i).toNat) .u8 ts rfl (by kernel_rfl) (by kernel_rfl) (by omega) (by first | omega | (simp only [List.length_cons, List.length_nil]; omega))) (by kernel_rfl) (by kernel_rfl) (by kernel_rfl) (by kernel_rfl) (fun _ _ _ h => h) ?_
      have hb9 : 0 ≤ ts.getD ((i).toNat) 0 ∧ ts.getD ((i).toNat) 0 < 256 := ht.at_ _
      refine RunU.sil hU true 11 (bm 16 4095) 35 (.int .u8 ((ts.getD ((i).toNat) 0) / (16 : Int))) (0 ≤ (ts.getD ((i).toNat) 0) ∧ 0 < (16 : Int) ∧ 0 ≤ ((ts.getD ((i).toNat) 0) / (16 : Int)) ∧ ((ts.getD ((i).toNat) 0) / (16 : Int)) < 256) (by kernel_rfl) (by omega) (by kernel_rfl) (by kernel_rfl) (fun _ _ _ h => h) ?_
      refine RunU.sil hU true 12 (bm 16 8191) 36 (.int .u8 (((ts.getD ((i).toNat) 0) / (16 : Int)) * 16)) (0 ≤ (((ts.getD ((i).toNat) 0) / (16 : Int)) * 16) ∧ (((ts.getD ((i).toNat) 0) / (16 : Int)) * 16) < 256) (by kernel_rfl) (by omega) (by kernel_rfl) (by kernel_rfl) (fun _ _ _ h => h) ?_
      refine RunU.sil hU false 13 (bm 16 16383) 37 (.int .u8 (bits2 .xor .u8 (os.getD (((4 * i) + 3).toNat) 0) (((ts.getD ((i).toNat) 0) / (16 : Int)) * 16))) (True) (by kernel_rfl) trivial (by kernel_rfl) (by kernel_rfl) (fun _ _ _ h => h) ?_
      refine RunU.sil hU false 14 (bm 16 32767) 38 (.pointer (some ⟨b5, 0 + ((4 * i) + 3).toNat * 1, none⟩)) (0 ≤ ((4 * i) + 3) ∧ ((4 * i) + 3) < ((32 : Nat) : Int)) (by kernel_rfl) (by omega) (by kernel_rfl) (by kernel_rfl) (fun _ _ _ h => h) ?_
      refine RunU.one (dst := none) (op := .store 5 (.tmp 38) (.tmp 37)) 15 (bm 16 65535) [] (by kernel_rfl) (by kernel_rfl) (Step.store_blknum hU 2 b5 (0 + ((4 * i) + 3).toNat * 1) 31 (((4 * i) + 3).toNat) .u8 os (bits2 .xor .u8 (os.getD (((4 * i) + 3).toNat) 0) (((ts.getD ((i).toNat) 0) / (16 : Int)) * 16)) (by kernel_rfl) (by kernel_rfl) (by kernel_rfl) rfl (by omega) (by first | omega | (simp only [List.length_cons, List.length_nil]; omega)) ?_)
      have hl10 : (os.set (((4 * i) + 3).toNat) (bits2 .xor .u8 (os.getD (((4 * i) + 3).toNat) 0) (((ts.getD ((i).toNat) 0) / (16 : Int)) * 16))).length = os.length := List.length_set
      refine ⟨.inr (by kernel_rfl), ?_⟩
      refine RunU.env [1, 3, 5, 6, 7, 8] [(1, .slice M ys.length d), (3, .pointer (some ⟨b2, 0, none⟩)), (5, .pointer (some ⟨b3, 0, none⟩)), (6, .bool false), (7, .pointer (some ⟨b5, 0, none⟩)), (8, .int .i64 i)] (by kernel_rfl) ?_
      refine RunU.done (by kernel_rfl) ?_
      refine kblock_n ?_
      refine kseq_n ?_
      refine RunC.region ?_
      refine RunR.sil hU [1] 3 3 [1, 3, 5, 6, 7, 8] [(1, .slice M ys.length d), (3, .pointer (some ⟨b2, 0, none⟩)), (5, .pointer (some ⟨b3, 0, none⟩)), (6, .bool false), (7, .pointer (some ⟨b5, 0, none⟩)), (8, .int .i64 (i + 1))] ((True) ∧ (-9223372036854775808 ≤ (i + 1) ∧ (i + 1) < 9223372036854775808) ∧ (True) ∧ True) rfl (by kernel_rfl) ⟨trivial, (by omega), trivial, trivial⟩ ?_
      refine RunR.done (by kernel_rfl) ?_
      refine kloop_n _ [1, 3, 5, 6, 7, 8] [1, 1, 0, 0] [(1, .slice M ys.length d), (3, .pointer (some ⟨b2, 0, none⟩)), (5, .pointer (some ⟨b3, 0, none⟩)), (6, .bool false), (7, .pointer (some ⟨b5, 0, none⟩)), (8, .int .i64 (i + 1))] [blk b2 31 (nums .u8 ks), blk b3 52 (nums .u8 ts), blk b5 31 (nums .u8 (os.set (((4 * i) + 3).toNat) (bits2 .xor .u8 (os.getD (((4 * i) + 3).toNat) 0) (((ts.getD ((i).toNat) 0) / (16 : Int)) * 16)))), vw M (nums .u8 ys)] (by kernel_rfl) (by kernel_rfl) ?_ ⟨(i + 1), (os.set (((4 * i) + 3).toNat) (bits2 .xor .u8 (os.getD (((4 * i) + 3).toNat) 0) (((ts.getD ((i).toNat) 0) / (16 : Int)) * 16))), (by first | assumption | omega | (simp only [List.length_append, List.length_cons, List.length_nil, List.length_set, List.length_replicate, List.length_take, List.length_drop]; omega) | (simp only [fits] at *; omega) | (simp only [List.length_append, List.length_cons, List.length_nil, List.length_set, List.length_replicate, List.length_take, List.length_drop] at *; omega) | (simp; done) | decide), (by first | assumption | omega | (simp only [List.length_append, List.length_cons, List.length_nil, List.length_set, List.length_replicate, List.length_take, List.length_drop]; omega) | (simp only [fits] at *; omega) | (simp only [List.length_append, List.length_cons, List.length_nil, List.length_set, List.length_replicate, List.length_take, List.length_drop] at *; omega) | (simp; done) | decide), (by exact In.set hoi _ (fits_bits2 _ _ _ _)), (by rw [List.length_set]; exact hol), (by exact kl_a hK hoi h0i (by omega) rfl (ht.at_ _)), rfl, (by first | rfl | simp only [List.length_set]), (by first | rfl | simp only [List.length_set])⟩
      show ((4 - (i + 1)).toNat : Nat) < ((4 - i).toNat : Nat)
      omega
    · skip
      refine RunC.exit ?_
      refine kseq_e ?_
      refine kloop_e ?_
      refine kblock_e ?_
      refine kseq_n ?_
      refine RunC.seq ?_
      refine RunC.seq ?_
      refine RunC.region ?_
      refine RunR.sil hU [] 1 1 [1, 3, 5, 6, 7, 9] [(1, .slice M ys.length d), (3, .pointer (some ⟨b2, 0, none⟩)), (5, .pointer (some ⟨b3, 0, none⟩)), (6, .bool false), (7, .pointer (some ⟨b5, 0, none⟩)), (9, .int .i64 0)] ((True) ∧ True) rfl (by kernel_rfl) ⟨trivial, trivial⟩ ?_
      refine RunR.done (by kernel_rfl) ?_
      refine kseq_n ?_
      refine RunC.block ?_
      refine RunC.env [1, 3, 5, 6, 7, 9] [(1, .slice M ys.length d), (3, .pointer (some ⟨b2, 0, none⟩)), (5, .pointer (some ⟨b3, 0, none⟩)), (6, .bool false), (7, .pointer (some ⟨b5, 0, none⟩)), (9, .int .i64 0)] (by kernel_rfl) ?_
      refine RunC.only [0, 0, 0, 0] [blk b2 31 (nums .u8 ks), blk b3 52 (nums .u8 ts), blk b5 31 (nums .u8 os), vw M (nums .u8 ys)] (by kernel_rfl) ?_
      refine RunC.loop (σ := Nat) (fun n_ t_ D_ => ∃ (j : Int) (us : List Int), (0 ≤ j) ∧ (j ≤ 3) ∧ (In .u8 us) ∧ (us.length = 32) ∧ (KL us ks) ∧ n_ = ((3 - j).toNat : Nat) ∧ t_ = [(1, .slice M ys.length d), (3, .pointer (some ⟨b2, 0, none⟩)), (5, .pointer (some ⟨b3, 0, none⟩)), (6, .bool false), (7, .pointer (some ⟨b5, 0, none⟩)), (9, .int .i64 j)] ∧ D_ = [blk b2 31 (nums .u8 ks), blk b3 52 (nums .u8 ts), blk b5 31 (nums .u8 us), vw M (nums .u8 ys)]) id _ ⟨0, os, (by first | assumption | omega | (simp only [List.length_append, List.length_cons, List.length_nil, List.length_set, List.length_replicate, List.length_take, List.length_drop]; omega) | (simp only [fits] at *; omega) | (simp only [List.length_append, List.length_cons, List.length_nil, List.length_set, List.length_replicate, List.length_take, List.length_drop] at *; omega) | (simp; done) | decide), (by first | assumption | omega | (simp only [List.length_append, List.length_cons, List.length_nil, List.length_set, List.length_replicate, List.length_take, List.length_drop]; omega) | (simp only [fits] at *; omega) | (simp only [List.length_append, List.length_cons, List.length_nil, List.length_set, List.length_replicate, List.length_take, List.length_drop] at *; omega) | (simp; done) | decide), (by exact hoi), (by exact hol), (by exact hK), rfl, rfl, rfl⟩ ?_
      rintro n_ _ _ ⟨j, us, h0j, h1j, hui, hul, hK2, rfl, rfl, rfl⟩
      refine RunC.seq ?_
      refine RunC.seq ?_
      refine RunC.region ?_
      refine RunR.sil hU [] 2 2 [1, 3, 5, 6, 7, 9, 40] [(1, .slice M ys.length d), (3, .pointer (some ⟨b2, 0, none⟩)), (5, .pointer (some ⟨b3, 0, none⟩)), (6, .bool false), (7, .pointer (some ⟨b5, 0, none⟩)), (9, .int .i64 j), (40, .bool (decide (j < 3)))] ((True) ∧ (True) ∧ True) rfl (by kernel_rfl) ⟨trivial, trivial, trivial⟩ ?_
      refine RunR.done (by kernel_rfl) ?_
      refine kseq_n ?_
      refine RunC.condp (j < 3) (by kernel_rfl) (fun h11 => ?_) (fun h11 => ?_)
      · skip
        refine RunC.skip ?_
        refine kseq_n ?_
        refine RunC.seq ?_
        refine RunC.block ?_
        refine RunC.regionU hU 16 [blk b5 31 (nums .u8 us), blk b3 52 (nums .u8 ts)] [2, 1] [14, 15] (bm 16 0) (by kernel_rfl) (by kernel_rfl) (by kernel_rfl) ?_
        refine RunU.sil hU false 0 (bm 16 1) 43 (.int .i64 j) (True) (by kernel_rfl) trivial (by kernel_rfl) (by kernel_rfl) (fun _ _ _ h => h) ?_
        refine RunU.sil hU true 1 (bm 16 3) 44 (.int .i64 (4 * j)) (-9223372036854775808 ≤ (4 * j) ∧ (4 * j) < 9223372036854775808) (by kernel_rfl) (by omega) (by kernel_rfl) (by kernel_rfl) (fun _ _ _ h => h) ?_
        refine RunU.sil hU true 2 (bm 16 7) 45 (.int .i64 ((4 * j) + 4)) (-9223372036854775808 ≤ ((4 * j) + 4) ∧ ((4 * j) + 4) < 9223372036854775808) (by kernel_rfl) (by omega) (by kernel_rfl) (by kernel_rfl) (fun _ _ _ h => h) ?_
        refine RunU.sil hU false 3 (bm 16 15) 46 (.int .i64 j) (True) (by kernel_rfl) trivial (by kernel_rfl) (by kernel_rfl) (fun _ _ _ h => h) ?_
        refine RunU.sil hU true 4 (bm 16 31) 47 (.int .i64 (4 * j)) (-9223372036854775808 ≤ (4 * j) ∧ (4 * j) < 9223372036854775808) (by kernel_rfl) (by omega) (by kernel_rfl) (by kernel_rfl) (fun _ _ _ h => h) ?_
        refine RunU.sil hU true 5 (bm 16 63) 48 (.int .i64 ((4 * j) + 4)) (-9223372036854775808 ≤ ((4 * j) + 4) ∧ ((4 * j) + 4) < 9223372036854775808) (by kernel_rfl) (by omega) (by kernel_rfl) (by kernel_rfl) (fun _ _ _ h => h) ?_
        refine RunU.sil hU false 6 (bm 16 127) 49 (.pointer (some ⟨b5, 0 + ((4 * j) + 4).toNat * 1, none⟩)) (0 ≤ ((4 * j) + 4) ∧ ((4 * j) + 4) < ((32 : Nat) : Int)) (by kernel_rfl) (by omega) (by kernel_rfl) (by kernel_rfl) (fun _ _ _ h => h) ?_
        refine RunU.read 7 (bm 16 255) 50 (.load 5 (.tmp 49)) (.int .u8 (us.getD (((4 * j) + 4).toNat) 0)) [2, 1] (by kernel_rfl) (Reads.load_blknum hU 0 b5 (0 + ((4 * j) + 4).toNat * 1) 31 (((4 * j) + 4).toNat) .u8 us rfl (by kernel_rfl) (by kernel_rfl) (by omega) (by first | omega | (simp only [List.length_cons, List.length_nil]; omega))) (by kernel_rfl) (by kernel_rfl) (by kernel_rfl) (by kernel_rfl) (fun _ _ _ h => h) ?_
        have hb12 : 0 ≤ us.getD (((4 * j) + 4).toNat) 0 ∧ us.getD (((4 * j) + 4).toNat) 0 < 256 := hui.at_ _
        refine RunU.sil hU false 8 (bm 16 511) 51 (.int .i64 j) (True) (by kernel_rfl) trivial (by kernel_rfl) (by kernel_rfl) (fun _ _ _ h => h) ?_
        refine RunU.sil hU true 9 (bm 16 1023) 52 (.int .i64 (4 + j)) (-9223372036854775808 ≤ (4 + j) ∧ (4 + j) < 9223372036854775808) (by kernel_rfl) (by omega) (by kernel_rfl) (by kernel_rfl) (fun _ _ _ h => h) ?_
        refine RunU.sil hU false 10 (bm 16 2047) 53 (.pointer (some ⟨b3, 0 + (4 + j).toNat * 1, none⟩)) (0 ≤ (4 + j) ∧ (4 + j) < ((7 : Nat) : Int)) (by kernel_rfl) (by omega) (by kernel_rfl) (by kernel_rfl) (fun _ _ _ h => h) ?_
        refine RunU.read 11 (bm 16 4095) 54 (.load 5 (.tmp 53)) (.int .u8 (ts.getD ((4 + j).toNat) 0)) [2, 1] (by kernel_rfl) (Reads.load_blknum hU 1 b3 (0 + (4 + j).toNat * 1) 52 ((4 + j).toNat) .u8 ts rfl (by kernel_rfl) (by kernel_rfl) (by omega) (by first | omega | (simp only [List.length_cons, List.length_nil]; omega))) (by kernel_rfl) (by kernel_rfl) (by kernel_rfl) (by kernel_rfl) (fun _ _ _ h => h) ?_
        have hb13 : 0 ≤ ts.getD ((4 + j).toNat) 0 ∧ ts.getD ((4 + j).toNat) 0 < 256 := ht.at_ _
        refine RunU.sil hU true 12 (bm 16 8191) 55 (.int .u8 ((ts.getD ((4 + j).toNat) 0) % (4 : Int))) (0 ≤ (ts.getD ((4 + j).toNat) 0) ∧ 0 < (4 : Int)) (by kernel_rfl) (by omega) (by kernel_rfl) (by kernel_rfl) (fun _ _ _ h => h) ?_
        refine RunU.sil hU false 13 (bm 16 16383) 56 (.int .u8 (bits2 .xor .u8 (us.getD (((4 * j) + 4).toNat) 0) ((ts.getD ((4 + j).toNat) 0) % (4 : Int)))) (True) (by kernel_rfl) trivial (by kernel_rfl) (by kernel_rfl) (fun _ _ _ h => h) ?_
        refine RunU.sil hU false 14 (bm 16 32767) 57 (.pointer (some ⟨b5, 0 + ((4 * j) + 4).toNat * 1, none⟩)) (0 ≤ ((4 * j) + 4) ∧ ((4 * j) + 4) < ((32 : Nat) : Int)) (by kernel_rfl) (by omega) (by kernel_rfl) (by kernel_rfl) (fun _ _ _ h => h) ?_
        refine RunU.one (dst := none) (op := .store 5 (.tmp 57) (.tmp 56)) 15 (bm 16 65535) [] (by kernel_rfl) (by kernel_rfl) (Step.store_blknum hU 2 b5 (0 + ((4 * j) + 4).toNat * 1) 31 (((4 * j) + 4).toNat) .u8 us (bits2 .xor .u8 (us.getD (((4 * j) + 4).toNat) 0) ((ts.getD ((4 + j).toNat) 0) % (4 : Int))) (by kernel_rfl) (by kernel_rfl) (by kernel_rfl) rfl (by omega) (by first | omega | (simp only [List.length_cons, List.length_nil]; omega)) ?_)
        have hl14 : (us.set (((4 * j) + 4).toNat) (bits2 .xor .u8 (us.getD (((4 * j) + 4).toNat) 0) ((ts.getD ((4 + j).toNat) 0) % (4 : Int)))).length = us.length := List.length_set
        refine ⟨.inr (by kernel_rfl), ?_⟩
        refine RunU.env [1, 3, 5, 6, 7, 9] [(1, .slice M ys.length d), (3, .pointer (some ⟨b2, 0, none⟩)), (5, .pointer (some ⟨b3, 0, none⟩)), (6, .bool false), (7, .pointer (some ⟨b5, 0, none⟩)), (9, .int .i64 j)] (by kernel_rfl) ?_
        refine RunU.done (by kernel_rfl) ?_
        refine kblock_n ?_
        refine kseq_n ?_
        refine RunC.region ?_
        refine RunR.sil hU [1] 3 3 [1, 3, 5, 6, 7, 9] [(1, .slice M ys.length d), (3, .pointer (some ⟨b2, 0, none⟩)), (5, .pointer (some ⟨b3, 0, none⟩)), (6, .bool false), (7, .pointer (some ⟨b5, 0, none⟩)), (9, .int .i64 (j + 1))] ((True) ∧ (-9223372036854775808 ≤ (j + 1) ∧ (j + 1) < 9223372036854775808) ∧ (True) ∧ True) rfl (by kernel_rfl) ⟨trivial, (by omega), trivial, trivial⟩ ?_
        refine RunR.done (by kernel_rfl) ?_
        refine kloop_n _ [1, 3, 5, 6, 7, 9] [1, 1, 0, 0] [(1, .slice M ys.length d), (3, .pointer (some ⟨b2, 0, none⟩)), (5, .pointer (some ⟨b3, 0, none⟩)), (6, .bool false), (7, .pointer (some ⟨b5, 0, none⟩)), (9, .int .i64 (j + 1))] [blk b2 31 (nums .u8 ks), blk b3 52 (nums .u8 ts), blk b5 31 (nums .u8 (us.set (((4 * j) + 4).toNat) (bits2 .xor .u8 (us.getD (((4 * j) + 4).toNat) 0) ((ts.getD ((4 + j).toNat) 0) % (4 : Int))))), vw M (nums .u8 ys)] (by kernel_rfl) (by kernel_rfl) ?_ ⟨(j + 1), (us.set (((4 * j) + 4).toNat) (bits2 .xor .u8 (us.getD (((4 * j) + 4).toNat) 0) ((ts.getD ((4 + j).toNat) 0) % (4 : Int)))), (by first | assumption | omega | (simp only [List.length_append, List.length_cons, List.length_nil, List.length_set, List.length_replicate, List.length_take, List.length_drop]; omega) | (simp only [fits] at *; omega) | (simp only [List.length_append, List.length_cons, List.length_nil, List.length_set, List.length_replicate, List.length_take, List.length_drop] at *; omega) | (simp; done) | decide), (by first | assumption | omega | (simp only [List.length_append, List.length_cons, List.length_nil, List.length_set, List.length_replicate, List.length_take, List.length_drop]; omega) | (simp only [fits] at *; omega) | (simp only [List.length_append, List.length_cons, List.length_nil, List.length_set, List.length_replicate, List.length_take, List.length_drop] at *; omega) | (simp; done) | decide), (by exact In.set hui _ (fits_bits2 _ _ _ _)), (by rw [List.length_set]; exact hul), (by exact kl_b hK2 hui h0j (by omega) rfl (ht.at_ _)), rfl, (by first | rfl | simp only [List.length_set]), (by first | rfl | simp only [List.length_set])⟩
        show ((3 - (j + 1)).toNat : Nat) < ((3 - j).toNat : Nat)
        omega
      · skip
        refine RunC.exit ?_
        refine kseq_e ?_
        refine kloop_e ?_
        refine kblock_e ?_
        refine kseq_n ?_
        refine RunC.seq ?_
        refine RunC.region ?_
        refine RunR.sil hU [] 2 2 [1, 6, 7, 59, 60] [(1, .slice M ys.length d), (6, .bool false), (7, .pointer (some ⟨b5, 0, none⟩)), (59, .slice (some ⟨b2, 0, none⟩) 32 32), (60, .slice M ys.length d)] ((True) ∧ (True) ∧ True) rfl (by kernel_rfl) ⟨trivial, trivial, trivial⟩ ?_
        refine RunR.step (dst := some 61) (op := .call { callee := .value (.func 28), args := #[.tmp 59, .tmp 60], argTypes := #[22, 22] }) (by kernel_rfl) (Step.call 28 [.slice (some ⟨b2, 0, none⟩) 32 32, .slice M ys.length d] (by kernel_rfl) (by kernel_rfl) [] [vw (some ⟨b2, 0, none⟩) (nums .u8 ks), vw M (nums .u8 ys)] [blk b2 31 (nums .u8 ks), blk b3 52 (nums .u8 ts), blk b5 31 (nums .u8 us), vw M (nums .u8 ys)] (y_Tag_spec (some ⟨b2, 0, none⟩) 32 ks M d ys 32 ys.length hk (by first | assumption | omega | (simp only [List.length_append, List.length_cons, List.length_nil, List.length_set, List.length_replicate, List.length_take, List.length_drop]; omega) | (simp only [fits] at *; omega) | (simp only [List.length_append, List.length_cons, List.length_nil, List.length_set, List.length_replicate, List.length_take, List.length_drop] at *; omega) | (simp; done) | decide) hy (by first | assumption | omega | (simp only [List.length_append, List.length_cons, List.length_nil, List.length_set, List.length_replicate, List.length_take, List.length_drop]; omega) | (simp only [fits] at *; omega) | (simp only [List.length_append, List.length_cons, List.length_nil, List.length_set, List.length_replicate, List.length_take, List.length_drop] at *; omega) | (simp; done) | decide) (by first | assumption | omega | (simp only [List.length_append, List.length_cons, List.length_nil, List.length_set, List.length_replicate, List.length_take, List.length_drop]; omega) | (simp only [fits] at *; omega) | (simp only [List.length_append, List.length_cons, List.length_nil, List.length_set, List.length_replicate, List.length_take, List.length_drop] at *; omega) | (simp; done) | decide) (by first | assumption | omega | (simp only [List.length_append, List.length_cons, List.length_nil, List.length_set, List.length_replicate, List.length_take, List.length_drop]; omega) | (simp only [fits] at *; omega) | (simp only [List.length_append, List.length_cons, List.length_nil, List.length_set, List.length_replicate, List.length_take, List.length_drop] at *; omega) | (simp; done) | decide) (by first | rfl | assumption | omega | (simp only [List.length_append, List.length_cons, List.length_nil, List.length_set, List.length_replicate, List.length_take, List.length_drop]; omega) | (simp; done)) (by first | rfl | assumption | omega | (simp only [List.length_append, List.length_cons, List.length_nil, List.length_set, List.length_replicate, List.length_take, List.length_drop]; omega) | (simp; done))) [] (by kernel_rfl) (((Lend.nil _).tells 3 (vw M (nums .u8 ys)) M (nums .u8 ys) (by kernel_rfl) (tells_vw _ _)).tells 0 (blk b2 31 (nums .u8 ks)) (some ⟨b2, 0, none⟩) (nums .u8 ks) (by kernel_rfl) (tells_blk _ _ 0 _ _ (by simp))) ?_)
        rintro _ _ ⟨A215, c216, zs17, e18, rfl, rfl, hp19, hp20, hp21, hp22, hp23⟩
        refine RunR.sil hU [] 5 8 [1, 6, 7, 10, 11] [(1, .slice M ys.length d), (6, .bool false), (7, .pointer (some ⟨b5, 0, none⟩)), (10, .slice A215 zs17.length c216), (11, .int .i64 e18)] ((True) ∧ (True) ∧ (True) ∧ (True) ∧ (True) ∧ True) rfl (by kernel_rfl) ⟨trivial, trivial, trivial, trivial, trivial, trivial⟩ ?_
        refine RunR.done (by kernel_rfl) ?_
        refine kseq_n ?_
        refine RunC.seq ?_
        refine RunC.region ?_
        refine RunR.sil hU [] 2 2 [6, 10, 11, 65, 66] [(6, .bool false), (10, .slice A215 zs17.length c216), (11, .int .i64 e18), (65, .slice (some ⟨b5, 0, none⟩) 32 32), (66, .slice M ys.length d)] ((True) ∧ (True) ∧ True) rfl (by kernel_rfl) ⟨trivial, trivial, trivial⟩ ?_
        refine RunR.step (dst := some 67) (op := .call { callee := .value (.func 28), args := #[.tmp 65, .tmp 66], argTypes := #[22, 22] }) (by kernel_rfl) (Step.call 28 [.slice (some ⟨b5, 0, none⟩) 32 32, .slice M ys.length d] (by kernel_rfl) (by kernel_rfl) [] [vw (some ⟨b5, 0, none⟩) (nums .u8 us), vw M (nums .u8 ys)] [row 5 1 (.slice A215 zs17.length c216) zs17.length (nums .u8 zs17), blk b2 31 (nums .u8 ks), blk b3 52 (nums .u8 ts), blk b5 31 (nums .u8 us), vw M (nums .u8 ys)] (y_Tag_spec (some ⟨b5, 0, none⟩) 32 us M d ys 32 ys.length hui (by first | assumption | omega | (simp only [List.length_append, List.length_cons, List.length_nil, List.length_set, List.length_replicate, List.length_take, List.length_drop]; omega) | (simp only [fits] at *; omega) | (simp only [List.length_append, List.length_cons, List.length_nil, List.length_set, List.length_replicate, List.length_take, List.length_drop] at *; omega) | (simp; done) | decide) hy (by first | assumption | omega | (simp only [List.length_append, List.length_cons, List.length_nil, List.length_set, List.length_replicate, List.length_take, List.length_drop]; omega) | (simp only [fits] at *; omega) | (simp only [List.length_append, List.length_cons, List.length_nil, List.length_set, List.length_replicate, List.length_take, List.length_drop] at *; omega) | (simp; done) | decide) (by first | assumption | omega | (simp only [List.length_append, List.length_cons, List.length_nil, List.length_set, List.length_replicate, List.length_take, List.length_drop]; omega) | (simp only [fits] at *; omega) | (simp only [List.length_append, List.length_cons, List.length_nil, List.length_set, List.length_replicate, List.length_take, List.length_drop] at *; omega) | (simp; done) | decide) (by first | assumption | omega | (simp only [List.length_append, List.length_cons, List.length_nil, List.length_set, List.length_replicate, List.length_take, List.length_drop]; omega) | (simp only [fits] at *; omega) | (simp only [List.length_append, List.length_cons, List.length_nil, List.length_set, List.length_replicate, List.length_take, List.length_drop] at *; omega) | (simp; done) | decide) (by first | rfl | assumption | omega | (simp only [List.length_append, List.length_cons, List.length_nil, List.length_set, List.length_replicate, List.length_take, List.length_drop]; omega) | (simp; done)) (by first | rfl | assumption | omega | (simp only [List.length_append, List.length_cons, List.length_nil, List.length_set, List.length_replicate, List.length_take, List.length_drop]; omega) | (simp; done))) [] (by kernel_rfl) (((Lend.nil _).tells 4 (vw M (nums .u8 ys)) M (nums .u8 ys) (by kernel_rfl) (tells_vw _ _)).tells 3 (blk b5 31 (nums .u8 us)) (some ⟨b5, 0, none⟩) (nums .u8 us) (by kernel_rfl) (tells_blk _ _ 0 _ _ (by simp))) ?_)
        rintro _ _ ⟨A224, c225, zs26, e27, rfl, rfl, hp28, hp29, hp30, hp31, hp32⟩
        refine RunR.sil hU [] 5 8 [6, 10, 11, 12, 13] [(6, .bool false), (10, .slice A215 zs17.length c216), (11, .int .i64 e18), (12, .slice A224 zs26.length c225), (13, .int .i64 e27)] ((True) ∧ (True) ∧ (True) ∧ (True) ∧ (True) ∧ True) rfl (by kernel_rfl) ⟨trivial, trivial, trivial, trivial, trivial, trivial⟩ ?_
        refine RunR.done (by kernel_rfl) ?_
        refine kseq_n ?_
        refine RunC.seq ?_
        refine RunC.region ?_
        refine RunR.sil hU [] 3 3 [6, 10, 12, 13, 72] [(6, .bool false), (10, .slice A215 zs17.length c216), (12, .slice A224 zs26.length c225), (13, .int .i64 e27), (72, .bool (decide (e18 = 0)))] ((True) ∧ (True) ∧ (True) ∧ True) rfl (by kernel_rfl) ⟨trivial, trivial, trivial, trivial⟩ ?_
        refine RunR.env [6, 10, 12, 13, 72] [(6, .bool false), (10, .slice A215 zs17.length c216), (12, .slice A224 zs26.length c225), (13, .int .i64 e27), (72, .bool (decide (e18 = 0)))] (by kernel_rfl) ?_
        have hk33 : (e18 = 0) := by simp only [hp19, hp20, hp28, hp29]; rw [codeL, if_pos (by first | omega | assumption)]
        refine RunR.enveq [(6, .bool false), (10, .slice A215 zs17.length c216), (12, .slice A224 zs26.length c225), (13, .int .i64 e27), (72, .bool true)] (by rw [decide_eq_true hk33]; try rfl) ?_
        refine RunR.sil hU [] 4 7 [6, 10, 12, 76] [(6, .bool false), (10, .slice A215 zs17.length c216), (12, .slice A224 zs26.length c225), (76, .bool (decide (e27 = 0)))] ((True) ∧ (True) ∧ (True) ∧ (True) ∧ True) rfl (by kernel_rfl) ⟨trivial, trivial, trivial, trivial, trivial⟩ ?_
        refine RunR.env [6, 10, 12, 76] [(6, .bool false), (10, .slice A215 zs17.length c216), (12, .slice A224 zs26.length c225), (76, .bool (decide (e27 = 0)))] (by kernel_rfl) ?_
        have hk34 : (e27 = 0) := by simp only [hp19, hp20, hp28, hp29]; rw [codeL, if_pos (by first | omega | assumption)]
        refine RunR.enveq [(6, .bool false), (10, .slice A215 zs17.length c216), (12, .slice A224 zs26.length c225), (76, .bool true)] (by rw [decide_eq_true hk34]; try rfl) ?_
        refine RunR.sil hU [] 2 9 [6, 76, 77, 78] [(6, .bool false), (76, .bool true), (77, .slice A215 zs17.length c216), (78, .slice A224 zs26.length c225)] ((True) ∧ (True) ∧ True) rfl (by kernel_rfl) ⟨trivial, trivial, trivial⟩ ?_
        refine RunR.step (dst := some 79) (op := .call { callee := .value (.func 17), args := #[.tmp 77, .tmp 78], argTypes := #[22, 22] }) (by kernel_rfl) (Step.call 17 [.slice A215 zs17.length c216, .slice A224 zs26.length c225] (by kernel_rfl) (by kernel_rfl) [] [vw A215 (nums .u8 zs17), vw A224 (nums .u8 zs26)] [row 5 1 (.slice A224 zs26.length c225) zs26.length (nums .u8 zs26), row 5 1 (.slice A215 zs17.length c216) zs17.length (nums .u8 zs17), blk b2 31 (nums .u8 ks), blk b3 52 (nums .u8 ts), blk b5 31 (nums .u8 us), vw M (nums .u8 ys)] (r_Equal_spec A215 c216 zs17 A224 c225 zs26 zs17.length zs26.length hp21 (by simp only [hp19, hp20, hp28, hp29]; exact tagL_le _ _) hp30 (by simp only [hp19, hp20, hp28, hp29]; exact tagL_le _ _) (by first | rfl | assumption | omega | (simp only [List.length_append, List.length_cons, List.length_nil, List.length_set, List.length_replicate, List.length_take, List.length_drop]; omega) | (simp; done)) (by first | rfl | assumption | omega | (simp only [List.length_append, List.length_cons, List.length_nil, List.length_set, List.length_replicate, List.length_take, List.length_drop]; omega) | (simp; done))) [] (by kernel_rfl) (((Lend.nil _).tells 0 (row 5 1 (.slice A224 zs26.length c225) zs26.length (nums .u8 zs26)) A224 (nums .u8 zs26) (by kernel_rfl) (tells_row _ _ _ _ _ _)).tells 1 (row 5 1 (.slice A215 zs17.length c216) zs17.length (nums .u8 zs17)) A215 (nums .u8 zs17) (by kernel_rfl) (tells_row _ _ _ _ _ _)) ?_)
        rintro _ _ ⟨rfl, rfl⟩
        refine RunR.sil hU [] 2 12 [6] [(6, .bool (decide (zs17 = zs26)))] ((True) ∧ (True) ∧ True) rfl (by kernel_rfl) ⟨trivial, trivial, trivial⟩ ?_
        refine RunR.env [6] [(6, .bool (decide (zs17 = zs26)))] (by kernel_rfl) ?_
        have hk35 : (zs17 = zs26) := by simp only [hp19, hp20, hp28, hp29]; exact kl_tag hK2 hkl
        refine RunR.enveq [(6, .bool true)] (by rw [decide_eq_true hk35]; try rfl) ?_
        refine RunR.done (by kernel_rfl) ?_
        refine kseq_n ?_
        refine RunC.ret ?_
        refine kret_r [.bool true] [] [] ⟨rfl, trivial⟩ (by kernel_rfl) rfl ⟨rfl, rfl⟩
end Go.Proofs.Ytoaoabnhkiijpaa.LPolyLoose
