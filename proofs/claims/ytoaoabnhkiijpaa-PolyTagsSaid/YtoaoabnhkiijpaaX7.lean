/- What these functions compute: a contract for each, walked through its code. -/
import Derived.Test.YtoaoabnhkiijpaaRPure
import Derived.Test.YtoaoabnhkiijpaaProg
import Derived.Test.YtoaoabnhkiijpaaX1
import Derived.Test.YtoaoabnhkiijpaaX2
import Derived.Test.YtoaoabnhkiijpaaX3
import Derived.Test.YtoaoabnhkiijpaaX4
import Derived.Test.YtoaoabnhkiijpaaX5
import Derived.Test.YtoaoabnhkiijpaaX6
namespace Go.Proofs.Ytoaoabnhkiijpaa.X7
open Go Go.Proofs.Ytoaoabnhkiijpaa.SL Go.Proofs.Ytoaoabnhkiijpaa.SL.W Go.Proofs.Ytoaoabnhkiijpaa.SL.Y Go.Proofs.Ytoaoabnhkiijpaa.X1 Go.Proofs.Ytoaoabnhkiijpaa.X2 Go.Proofs.Ytoaoabnhkiijpaa.X3 Go.Proofs.Ytoaoabnhkiijpaa.X4 Go.Proofs.Ytoaoabnhkiijpaa.X5 Go.Proofs.Ytoaoabnhkiijpaa.X6
set_option linter.unusedVariables false
set_option linter.unusedSimpArgs false
set_option maxRecDepth 100000
set_option maxHeartbeats 40000000
def U : Tab where
  und := [(3, .int .i64), (82, .slice 3)]
  fld := []
  sz := [(3, 1), (82, 1)]
  ti := [(3, (1, 8, .int .i64 0)), (82, (1, 24, .slice none 0 0))]
  bld := []

theorem hU : U.OK Try.prog where
  und := by
    intro p hp
    simp only [U, List.mem_cons, List.not_mem_nil, or_false] at hp
    rcases hp with rfl | rfl
    · exact Try.underlying3
    · exact Try.underlying82
  fld := by
    intro p hp; cases hp
  sz := by
    intro p hp
    simp only [U, List.mem_cons, List.not_mem_nil, or_false] at hp
    rcases hp with rfl | rfl
    · exact ⟨Try.prog.types[3]!, by kernel_rfl, by kernel_rfl⟩
    · exact ⟨Try.prog.types[82]!, by kernel_rfl, by kernel_rfl⟩
  ti := by
    intro p hp
    simp only [U, List.mem_cons, List.not_mem_nil, or_false] at hp
    rcases hp with rfl | rfl
    · exact ⟨Try.prog.types[3]!, by kernel_rfl, by kernel_rfl, by kernel_rfl, by kernel_rfl⟩
    · exact ⟨Try.prog.types[82]!, by kernel_rfl, by kernel_rfl, by kernel_rfl, by kernel_rfl⟩
  bld := by
    intro p hp; cases hp
  mixed := by kernel_rfl

theorem r_times_spec (A : Option Addr) (c : Nat) (xs : List Int) (B : Option Addr) (d : Nat) (ys : List Int) (l_xs : Nat) (l_ys : Nat) (hx : In .u8 xs) (hy : In .u8 ys) (hl : xs.length + ys.length ≤ 36) (hl_xs : xs.length = l_xs) (hl_ys : ys.length = l_ys) :
    CallsS Try.prog 54 [.slice A l_xs c, .slice B l_ys d] [vw A (nums .i64 xs), vw B (nums .i64 ys)] (fun r D => ∃ (A2 : Option Addr) (c2 : Nat) (zs : List Int), r = .slice A2 zs.length c2 ∧ D = [row 3 1 (.slice A2 zs.length c2) zs.length (nums .i64 zs)] ∧ (In .u8 zs) ∧ (zs.length = 36) ∧ (leN zs 36 = leN xs xs.length * leN ys ys.length) ∧ (zs.length ≤ c2) ∧ (0 < zs.length → Option.isSome A2 = true)) := by
  subst hl_xs
  subst hl_ys
  refine CallsS.enter hU Try.f54 _ [.tmp 4] 60 Try.func54 rfl (by decide) rfl rfl (by kernel_rfl) fun w0 W => ?_
  refine RunC.know (p := 0 < xs.length → Option.isSome A = true) (fun _ _ w hs => vw_some hs 0 rfl (by simp [nums_length])) (fun hA1 => ?_)
  refine RunC.know (p := 0 < ys.length → Option.isSome B = true) (fun _ _ w hs => vw_some hs 1 rfl (by simp [nums_length])) (fun hA2 => ?_)
  refine RunC.seq ?_
  refine RunC.region ?_
  refine RunR.sil hU [] 1 1 [0, 1, 4] [(0, .slice A xs.length c), (1, .slice B ys.length d), (4, .slice none 0 0)] ((True) ∧ True) rfl (by kernel_rfl) ⟨trivial, trivial⟩ ?_
  refine RunR.done (by kernel_rfl) ?_
  refine kseq_n ?_
  refine RunC.seq ?_
  refine RunC.region ?_
  refine RunR.step (dst := some 10) (op := .makeSlice 82 (.const (.int .i64 36)) (.const (.int .i64 36))) (by kernel_rfl) (Step.make_nums hU 3 8 .i64 .i64 .i64 (36) rfl rfl (by kernel_rfl) (by kernel_rfl) (by omega) (by omega) (by kernel_rfl) (fun b3 => ?_))
  have hl4 : (List.replicate 36 (0 : Int)).length = 36 := List.length_replicate
  refine RunR.sil hU [] 1 2 [0, 1, 4, 5] [(0, .slice A xs.length c), (1, .slice B ys.length d), (4, .slice none 0 0), (5, .slice (some ⟨b3, 0, none⟩) 36 36)] ((True) ∧ True) rfl (by kernel_rfl) ⟨trivial, trivial⟩ ?_
  refine RunR.done (by kernel_rfl) ?_
  refine kseq_n ?_
  refine RunC.seq ?_
  refine RunC.seq ?_
  refine RunC.region ?_
  refine RunR.sil hU [] 1 1 [0, 1, 4, 5, 6] [(0, .slice A xs.length c), (1, .slice B ys.length d), (4, .slice none 0 0), (5, .slice (some ⟨b3, 0, none⟩) 36 36), (6, .int .i64 0)] ((True) ∧ True) rfl (by kernel_rfl) ⟨trivial, trivial⟩ ?_
  refine RunR.done (by kernel_rfl) ?_
  refine kseq_n ?_
  refine RunC.block ?_
  refine RunC.env [0, 1, 4, 5, 6] [(0, .slice A xs.length c), (1, .slice B ys.length d), (4, .slice none 0 0), (5, .slice (some ⟨b3, 0, none⟩) 36 36), (6, .int .i64 0)] (by kernel_rfl) ?_
  refine RunC.only [0, 0, 0] [row 3 1 (.slice (some ⟨b3, 0, none⟩) 36 36) 36 (nums .i64 (List.replicate 36 (0 : Int))), vw A (nums .i64 xs), vw B (nums .i64 ys)] (by kernel_rfl) ?_
  refine RunC.loop (σ := Nat) (fun n_ t_ D_ => ∃ (i : Int) (os : List Int), (0 ≤ i) ∧ (i ≤ (xs.length : Int)) ∧ (In .u8 os) ∧ (os.length = 36) ∧ (leN os 36 = leN xs i.toNat * leN ys ys.length) ∧ n_ = ((xs.length - i).toNat : Nat) ∧ t_ = [(0, .slice A xs.length c), (1, .slice B ys.length d), (4, .slice none 0 0), (5, .slice (some ⟨b3, 0, none⟩) 36 36), (6, .int .i64 i)] ∧ D_ = [row 3 1 (.slice (some ⟨b3, 0, none⟩) 36 36) 36 (nums .i64 os), vw A (nums .i64 xs), vw B (nums .i64 ys)]) id _ ⟨0, (List.replicate 36 (0 : Int)), (by first | assumption | omega | (simp only [List.length_append, List.length_cons, List.length_nil, List.length_set, List.length_replicate, List.length_take, List.length_drop]; omega) | (simp only [fits] at *; omega) | (simp only [List.length_append, List.length_cons, List.length_nil, List.length_set, List.length_replicate, List.length_take, List.length_drop] at *; omega) | (simp; done) | decide), (by first | assumption | omega | (simp only [List.length_append, List.length_cons, List.length_nil, List.length_set, List.length_replicate, List.length_take, List.length_drop]; omega) | (simp only [fits] at *; omega) | (simp only [List.length_append, List.length_cons, List.length_nil, List.length_set, List.length_replicate, List.length_take, List.length_drop] at *; omega) | (simp; done) | decide), (by (repeat first | assumption | (simp only [fits]; omega) | with_reducible first | exact fits_wrap _ _ | exact fits_bits2 _ _ _ _ | exact In.nil _ | exact In.sb _ | exact In.replicate _ _ | apply In.append | apply In.cons | apply In.set | apply In.take | apply In.drop | apply In.rev)), (by first | rfl | assumption | omega | (simp only [List.length_append, List.length_cons, List.length_nil, List.length_set, List.length_replicate, List.length_take, List.length_drop]; omega) | (simp; done)), (by rw [show leN (List.replicate 36 (0 : Int)) 36 = 0 by decide +kernel]; simp [leN]), rfl, rfl, rfl⟩ ?_
  rintro n_ _ _ ⟨i, os, hi, hin, hoi, hol, hov, rfl, rfl, rfl⟩
  refine RunC.seq ?_
  refine RunC.seq ?_
  refine RunC.region ?_
  refine RunR.sil hU [] 4 4 [0, 1, 4, 5, 6, 14] [(0, .slice A xs.length c), (1, .slice B ys.length d), (4, .slice none 0 0), (5, .slice (some ⟨b3, 0, none⟩) 36 36), (6, .int .i64 i), (14, .bool (decide (i < ((xs.length : Nat) : Int))))] ((True) ∧ (True) ∧ (True) ∧ (True) ∧ True) rfl (by kernel_rfl) ⟨trivial, trivial, trivial, trivial, trivial⟩ ?_
  refine RunR.done (by kernel_rfl) ?_
  refine kseq_n ?_
  refine RunC.condp (i < ((xs.length : Nat) : Int)) (by kernel_rfl) (fun h5 => ?_) (fun h5 => ?_)
  · skip
    refine RunC.skip ?_
    refine kseq_n ?_
    refine RunC.seq ?_
    refine RunC.block ?_
    refine RunC.seq ?_
    refine RunC.region ?_
    refine RunR.sil hU [] 1 1 [0, 1, 4, 5, 6, 7] [(0, .slice A xs.length c), (1, .slice B ys.length d), (4, .slice none 0 0), (5, .slice (some ⟨b3, 0, none⟩) 36 36), (6, .int .i64 i), (7, .int .i64 0)] ((True) ∧ True) rfl (by kernel_rfl) ⟨trivial, trivial⟩ ?_
    refine RunR.done (by kernel_rfl) ?_
    refine kseq_n ?_
    refine RunC.seq ?_
    refine RunC.region ?_
    refine RunR.sil hU [] 1 1 [0, 1, 4, 5, 6, 7, 8] [(0, .slice A xs.length c), (1, .slice B ys.length d), (4, .slice none 0 0), (5, .slice (some ⟨b3, 0, none⟩) 36 36), (6, .int .i64 i), (7, .int .i64 0), (8, .int .i64 0)] ((True) ∧ True) rfl (by kernel_rfl) ⟨trivial, trivial⟩ ?_
    refine RunR.done (by kernel_rfl) ?_
    refine kseq_n ?_
    refine RunC.block ?_
    refine RunC.env [0, 1, 4, 5, 6, 7, 8] [(0, .slice A xs.length c), (1, .slice B ys.length d), (4, .slice none 0 0), (5, .slice (some ⟨b3, 0, none⟩) 36 36), (6, .int .i64 i), (7, .int .i64 0), (8, .int .i64 0)] (by kernel_rfl) ?_
    refine RunC.only [0, 0, 0] [row 3 1 (.slice (some ⟨b3, 0, none⟩) 36 36) 36 (nums .i64 os), vw A (nums .i64 xs), vw B (nums .i64 ys)] (by kernel_rfl) ?_
    refine RunC.loop (σ := Nat) (fun n_ t_ D_ => ∃ (k : Int) (cy : Int) (us : List Int), (0 ≤ k) ∧ (k ≤ (ys.length : Int) + 1) ∧ (0 ≤ cy ∧ cy ≤ 255) ∧ (In .u8 us) ∧ (us.length = 36) ∧ (leN us 36 + cy * 256 ^ (i.toNat + k.toNat) = leN xs i.toNat * leN ys ys.length + xs.getD i.toNat 0 * 256 ^ i.toNat * leN ys k.toNat) ∧ (k ≤ (ys.length : Int) ∨ cy = 0) ∧ n_ = ((ys.length + 2 - k).toNat : Nat) ∧ t_ = [(0, .slice A xs.length c), (1, .slice B ys.length d), (4, .slice none 0 0), (5, .slice (some ⟨b3, 0, none⟩) 36 36), (6, .int .i64 i), (7, .int .i64 cy), (8, .int .i64 k)] ∧ D_ = [row 3 1 (.slice (some ⟨b3, 0, none⟩) 36 36) 36 (nums .i64 us), vw A (nums .i64 xs), vw B (nums .i64 ys)]) id _ ⟨0, 0, os, (by first | assumption | omega | (simp only [List.length_append, List.length_cons, List.length_nil, List.length_set, List.length_replicate, List.length_take, List.length_drop]; omega) | (simp only [fits] at *; omega) | (simp only [List.length_append, List.length_cons, List.length_nil, List.length_set, List.length_replicate, List.length_take, List.length_drop] at *; omega) | (simp; done) | decide), (by first | assumption | omega | (simp only [List.length_append, List.length_cons, List.length_nil, List.length_set, List.length_replicate, List.length_take, List.length_drop]; omega) | (simp only [fits] at *; omega) | (simp only [List.length_append, List.length_cons, List.length_nil, List.length_set, List.length_replicate, List.length_take, List.length_drop] at *; omega) | (simp; done) | decide), (by first | assumption | omega | (simp only [List.length_append, List.length_cons, List.length_nil, List.length_set, List.length_replicate, List.length_take, List.length_drop]; omega) | (simp only [fits] at *; omega) | (simp only [List.length_append, List.length_cons, List.length_nil, List.length_set, List.length_replicate, List.length_take, List.length_drop] at *; omega) | (simp; done) | decide), (by exact hoi), (by exact hol), (by rw [hov]; simp [leN]), (by exact .inl (by omega)), rfl, rfl, rfl⟩ ?_
    rintro n_ _ _ ⟨k, cy, us, hk, hk2, hcb, hui, hul, huv, hkc, rfl, rfl, rfl⟩
    refine RunC.seq ?_
    refine RunC.seq ?_
    refine RunC.region ?_
    refine RunR.sil hU [] 5 5 [0, 1, 4, 5, 6, 7, 8, 21] [(0, .slice A xs.length c), (1, .slice B ys.length d), (4, .slice none 0 0), (5, .slice (some ⟨b3, 0, none⟩) 36 36), (6, .int .i64 i), (7, .int .i64 cy), (8, .int .i64 k), (21, .bool (decide (k < ((ys.length : Nat) : Int))))] ((True) ∧ (True) ∧ (True) ∧ (True) ∧ (True) ∧ True) rfl (by kernel_rfl) ⟨trivial, trivial, trivial, trivial, trivial, trivial⟩ ?_
    refine RunR.env [0, 1, 4, 5, 6, 7, 8, 21] [(0, .slice A xs.length c), (1, .slice B ys.length d), (4, .slice none 0 0), (5, .slice (some ⟨b3, 0, none⟩) 36 36), (6, .int .i64 i), (7, .int .i64 cy), (8, .int .i64 k), (21, .bool (decide (k < ((ys.length : Nat) : Int))))] (by kernel_rfl) ?_
    by_cases h6 : k < ((ys.length : Nat) : Int)
    · skip
      refine RunR.enveq [(0, .slice A xs.length c), (1, .slice B ys.length d), (4, .slice none 0 0), (5, .slice (some ⟨b3, 0, none⟩) 36 36), (6, .int .i64 i), (7, .int .i64 cy), (8, .int .i64 k), (21, .bool true)] (by rw [decide_eq_true h6]; try rfl) ?_
      refine RunR.sil hU [] 3 8 [0, 1, 4, 5, 6, 7, 8, 24] [(0, .slice A xs.length c), (1, .slice B ys.length d), (4, .slice none 0 0), (5, .slice (some ⟨b3, 0, none⟩) 36 36), (6, .int .i64 i), (7, .int .i64 cy), (8, .int .i64 k), (24, .bool true)] ((True) ∧ True) rfl (by kernel_rfl) ⟨trivial, trivial⟩ ?_
      refine RunR.done (by kernel_rfl) ?_
      refine kseq_n ?_
      refine RunC.cond (b := true) (by kernel_rfl) (fun _ => ?_) (fun h => by cases h)
      refine RunC.skip ?_
      refine kseq_n ?_
      refine RunC.seq ?_
      refine RunC.block ?_
      refine RunC.seq ?_
      refine RunC.region ?_
      refine RunR.sil hU [3] 5 5 [0, 1, 4, 5, 6, 7, 8, 31] [(0, .slice A xs.length c), (1, .slice B ys.length d), (4, .slice none 0 0), (5, .slice (some ⟨b3, 0, none⟩) 36 36), (6, .int .i64 i), (7, .int .i64 cy), (8, .int .i64 k), (31, .pointer (elemAt (some ⟨b3, 0, none⟩) (i + k) 1))] ((True) ∧ (True) ∧ (True) ∧ (-9223372036854775808 ≤ (i + k) ∧ (i + k) < 9223372036854775808) ∧ ((0 ≤ (i + k) ∧ (i + k) < ((36 : Nat) : Int)) ∧ Option.isSome (some ⟨b3, 0, none⟩ : Option Addr) = true) ∧ True) rfl (by kernel_rfl) ⟨trivial, trivial, trivial, (by omega), ⟨by omega, rfl⟩, trivial⟩ ?_
      refine RunR.step (dst := some 32) (op := .load 3 (.tmp 31)) (by kernel_rfl) (Step.load_num hU 0 (row 3 1 (.slice (some ⟨b3, 0, none⟩) 36 36) 36 (nums .i64 us)) (some ⟨b3, 0, none⟩) (i + k) .i64 us rfl (by kernel_rfl) (by kernel_rfl) (tells_row _ _ _ _ _ _) (by kernel_rfl) (by omega) ?_)
      have hb7 : 0 ≤ us.getD ((i + k).toNat) 0 ∧ us.getD ((i + k).toNat) 0 < 256 := hui.at_ _
      refine RunR.sil hU [7] 3 9 [0, 1, 4, 5, 6, 7, 8, 9] [(0, .slice A xs.length c), (1, .slice B ys.length d), (4, .slice none 0 0), (5, .slice (some ⟨b3, 0, none⟩) 36 36), (6, .int .i64 i), (7, .int .i64 cy), (8, .int .i64 k), (9, .int .i64 ((us.getD (i + k).toNat 0) + cy))] ((True) ∧ (-9223372036854775808 ≤ ((us.getD (i + k).toNat 0) + cy) ∧ ((us.getD (i + k).toNat 0) + cy) < 9223372036854775808) ∧ (True) ∧ True) rfl (by kernel_rfl) ⟨trivial, (by omega), trivial, trivial⟩ ?_
      refine RunR.done (by kernel_rfl) ?_
      refine kseq_n ?_
      refine RunC.seq ?_
      refine RunC.seq ?_
      refine RunC.region ?_
      refine RunR.sil hU [] 4 4 [0, 1, 4, 5, 6, 7, 8, 9, 38] [(0, .slice A xs.length c), (1, .slice B ys.length d), (4, .slice none 0 0), (5, .slice (some ⟨b3, 0, none⟩) 36 36), (6, .int .i64 i), (7, .int .i64 cy), (8, .int .i64 k), (9, .int .i64 ((us.getD (i + k).toNat 0) + cy)), (38, .bool (decide (k < ((ys.length : Nat) : Int))))] ((True) ∧ (True) ∧ (True) ∧ (True) ∧ True) rfl (by kernel_rfl) ⟨trivial, trivial, trivial, trivial, trivial⟩ ?_
      refine RunR.env [0, 1, 4, 5, 6, 7, 8, 9, 38] [(0, .slice A xs.length c), (1, .slice B ys.length d), (4, .slice none 0 0), (5, .slice (some ⟨b3, 0, none⟩) 36 36), (6, .int .i64 i), (7, .int .i64 cy), (8, .int .i64 k), (9, .int .i64 ((us.getD (i + k).toNat 0) + cy)), (38, .bool (decide (k < ((ys.length : Nat) : Int))))] (by kernel_rfl) ?_
      have hk8 : (k < ((ys.length : Nat) : Int)) := by exact h6
      refine RunR.enveq [(0, .slice A xs.length c), (1, .slice B ys.length d), (4, .slice none 0 0), (5, .slice (some ⟨b3, 0, none⟩) 36 36), (6, .int .i64 i), (7, .int .i64 cy), (8, .int .i64 k), (9, .int .i64 ((us.getD (i + k).toNat 0) + cy)), (38, .bool true)] (by rw [decide_eq_true hk8]; try rfl) ?_
      refine RunR.done (by kernel_rfl) ?_
      refine kseq_n ?_
      refine RunC.cond (b := true) (by kernel_rfl) (fun _ => ?_) (fun h => by cases h)
      refine RunC.regionU hU 12 [vw A (nums .i64 xs), vw B (nums .i64 ys)] [1, 2] [11] (bm 12 0) (by kernel_rfl) (by kernel_rfl) (by kernel_rfl) ?_
      refine RunU.sil hU false 0 (bm 12 1) 39 (.int .i64 ((us.getD (i + k).toNat 0) + cy)) (True) (by kernel_rfl) trivial (by kernel_rfl) (by kernel_rfl) (fun _ _ _ h => h) ?_
      refine RunU.sil hU false 1 (bm 12 3) 40 (.slice A xs.length c) (True) (by kernel_rfl) trivial (by kernel_rfl) (by kernel_rfl) (fun _ _ _ h => h) ?_
      refine RunU.sil hU false 2 (bm 12 7) 41 (.int .i64 i) (True) (by kernel_rfl) trivial (by kernel_rfl) (by kernel_rfl) (fun _ _ _ h => h) ?_
      refine RunU.sil hU false 3 (bm 12 15) 42 (.pointer (elemAt A i 1)) ((0 ≤ i ∧ i < ((xs.length : Nat) : Int)) ∧ Option.isSome A = true) (by kernel_rfl) ⟨by omega, hA1 (by omega)⟩ (by kernel_rfl) (by kernel_rfl) (fun _ _ _ h => h) ?_
      refine RunU.read 4 (bm 12 31) 43 (.load 3 (.tmp 42)) (.int .i64 (xs.getD (i).toNat 0)) [1, 2] (by kernel_rfl) (Reads.load_num hU 0 (vw A (nums .i64 xs)) A i .i64 xs rfl (by kernel_rfl) (by kernel_rfl) (tells_vw _ _) (by omega)) (by kernel_rfl) (by kernel_rfl) (by kernel_rfl) (by kernel_rfl) (fun _ _ _ h => h) ?_
      have hb9 : 0 ≤ xs.getD ((i).toNat) 0 ∧ xs.getD ((i).toNat) 0 < 256 := hx.at_ _
      refine RunU.sil hU false 5 (bm 12 63) 44 (.slice B ys.length d) (True) (by kernel_rfl) trivial (by kernel_rfl) (by kernel_rfl) (fun _ _ _ h => h) ?_
      refine RunU.sil hU false 6 (bm 12 127) 45 (.int .i64 k) (True) (by kernel_rfl) trivial (by kernel_rfl) (by kernel_rfl) (fun _ _ _ h => h) ?_
      refine RunU.sil hU false 7 (bm 12 255) 46 (.pointer (elemAt B k 1)) ((0 ≤ k ∧ k < ((ys.length : Nat) : Int)) ∧ Option.isSome B = true) (by kernel_rfl) ⟨by omega, hA2 (by omega)⟩ (by kernel_rfl) (by kernel_rfl) (fun _ _ _ h => h) ?_
      refine RunU.read 8 (bm 12 511) 47 (.load 3 (.tmp 46)) (.int .i64 (ys.getD (k).toNat 0)) [1, 2] (by kernel_rfl) (Reads.load_num hU 1 (vw B (nums .i64 ys)) B k .i64 ys rfl (by kernel_rfl) (by kernel_rfl) (tells_vw _ _) (by omega)) (by kernel_rfl) (by kernel_rfl) (by kernel_rfl) (by kernel_rfl) (fun _ _ _ h => h) ?_
      have hb10 : 0 ≤ ys.getD ((k).toNat) 0 ∧ ys.getD ((k).toNat) 0 < 256 := hy.at_ _
      have hm11 := mul8 (a := (xs.getD (i).toNat 0)) (b := (ys.getD (k).toNat 0)) (by omega) (by omega)
      refine RunU.sil hU true 9 (bm 12 1023) 48 (.int .i64 ((xs.getD (i).toNat 0) * (ys.getD (k).toNat 0))) (-9223372036854775808 ≤ ((xs.getD (i).toNat 0) * (ys.getD (k).toNat 0)) ∧ ((xs.getD (i).toNat 0) * (ys.getD (k).toNat 0)) < 9223372036854775808) (by kernel_rfl) (by omega) (by kernel_rfl) (by kernel_rfl) (fun _ _ _ h => h) ?_
      refine RunU.sil hU true 10 (bm 12 2047) 49 (.int .i64 (((us.getD (i + k).toNat 0) + cy) + ((xs.getD (i).toNat 0) * (ys.getD (k).toNat 0)))) (-9223372036854775808 ≤ (((us.getD (i + k).toNat 0) + cy) + ((xs.getD (i).toNat 0) * (ys.getD (k).toNat 0))) ∧ (((us.getD (i + k).toNat 0) + cy) + ((xs.getD (i).toNat 0) * (ys.getD (k).toNat 0))) < 9223372036854775808) (by kernel_rfl) (by omega) (by kernel_rfl) (by kernel_rfl) (fun _ _ _ h => h) ?_
      refine RunU.sil hU false 11 (bm 12 4095) 9 (.int .i64 (((us.getD (i + k).toNat 0) + cy) + ((xs.getD (i).toNat 0) * (ys.getD (k).toNat 0)))) (True) (by kernel_rfl) trivial (by kernel_rfl) (by kernel_rfl) (fun _ _ _ h => h) ?_
      refine RunU.env [0, 1, 4, 5, 6, 7, 8, 9] [(0, .slice A xs.length c), (1, .slice B ys.length d), (4, .slice none 0 0), (5, .slice (some ⟨b3, 0, none⟩) 36 36), (6, .int .i64 i), (7, .int .i64 cy), (8, .int .i64 k), (9, .int .i64 (((us.getD (i + k).toNat 0) + cy) + ((xs.getD (i).toNat 0) * (ys.getD (k).toNat 0))))] (by kernel_rfl) ?_
      refine RunU.done (by kernel_rfl) ?_
      refine kseq_n ?_
      refine RunC.seq ?_
      refine RunC.region ?_
      refine RunR.sil hU [3, 5] 7 7 [0, 1, 4, 5, 6, 7, 8, 9, 55, 56] [(0, .slice A xs.length c), (1, .slice B ys.length d), (4, .slice none 0 0), (5, .slice (some ⟨b3, 0, none⟩) 36 36), (6, .int .i64 i), (7, .int .i64 cy), (8, .int .i64 k), (9, .int .i64 (((us.getD (i + k).toNat 0) + cy) + ((xs.getD (i).toNat 0) * (ys.getD (k).toNat 0)))), (55, .int .i64 ((((us.getD (i + k).toNat 0) + cy) + ((xs.getD (i).toNat 0) * (ys.getD (k).toNat 0))) % (256 : Int))), (56, .pointer (elemAt (some ⟨b3, 0, none⟩) (i + k) 1))] ((True) ∧ (True) ∧ (True) ∧ (-9223372036854775808 ≤ (i + k) ∧ (i + k) < 9223372036854775808) ∧ (True) ∧ (0 ≤ (((us.getD (i + k).toNat 0) + cy) + ((xs.getD (i).toNat 0) * (ys.getD (k).toNat 0))) ∧ 0 < (256 : Int)) ∧ ((0 ≤ (i + k) ∧ (i + k) < ((36 : Nat) : Int)) ∧ Option.isSome (some ⟨b3, 0, none⟩ : Option Addr) = true) ∧ True) rfl (by kernel_rfl) ⟨trivial, trivial, trivial, (by omega), trivial, (by omega), ⟨by omega, rfl⟩, trivial⟩ ?_
      refine RunR.step (dst := none) (op := .store 3 (.tmp 56) (.tmp 55)) (by kernel_rfl) (Step.store_num hU 0 3 36 36 (some ⟨b3, 0, none⟩) .i64 us (i + k) ((((us.getD (i + k).toNat 0) + cy) + ((xs.getD (i).toNat 0) * (ys.getD (k).toNat 0))) % (256 : Int)) (by kernel_rfl) (by kernel_rfl) (by kernel_rfl) rfl (by omega) ?_)
      have hl12 : (us.set (i + k).toNat ((((us.getD (i + k).toNat 0) + cy) + ((xs.getD (i).toNat 0) * (ys.getD (k).toNat 0))) % (256 : Int))).length = us.length := List.length_set
      refine RunR.done (by kernel_rfl) ?_
      refine kseq_n ?_
      refine RunC.region ?_
      refine RunR.sil hU [1] 3 3 [0, 1, 4, 5, 6, 7, 8] [(0, .slice A xs.length c), (1, .slice B ys.length d), (4, .slice none 0 0), (5, .slice (some ⟨b3, 0, none⟩) 36 36), (6, .int .i64 i), (7, .int .i64 ((((us.getD (i + k).toNat 0) + cy) + ((xs.getD (i).toNat 0) * (ys.getD (k).toNat 0))) / (256 : Int))), (8, .int .i64 k)] ((True) ∧ (0 ≤ (((us.getD (i + k).toNat 0) + cy) + ((xs.getD (i).toNat 0) * (ys.getD (k).toNat 0))) ∧ 0 < (256 : Int) ∧ -9223372036854775808 ≤ ((((us.getD (i + k).toNat 0) + cy) + ((xs.getD (i).toNat 0) * (ys.getD (k).toNat 0))) / (256 : Int)) ∧ ((((us.getD (i + k).toNat 0) + cy) + ((xs.getD (i).toNat 0) * (ys.getD (k).toNat 0))) / (256 : Int)) < 9223372036854775808) ∧ (True) ∧ True) rfl (by kernel_rfl) ⟨trivial, (by omega), trivial, trivial⟩ ?_
      refine RunR.done (by kernel_rfl) ?_
      refine kblock_n ?_
      refine kseq_n ?_
      refine RunC.region ?_
      refine RunR.sil hU [1] 3 3 [0, 1, 4, 5, 6, 7, 8] [(0, .slice A xs.length c), (1, .slice B ys.length d), (4, .slice none 0 0), (5, .slice (some ⟨b3, 0, none⟩) 36 36), (6, .int .i64 i), (7, .int .i64 ((((us.getD (i + k).toNat 0) + cy) + ((xs.getD (i).toNat 0) * (ys.getD (k).toNat 0))) / (256 : Int))), (8, .int .i64 (k + 1))] ((True) ∧ (-9223372036854775808 ≤ (k + 1) ∧ (k + 1) < 9223372036854775808) ∧ (True) ∧ True) rfl (by kernel_rfl) ⟨trivial, (by omega), trivial, trivial⟩ ?_
      refine RunR.done (by kernel_rfl) ?_
      refine kloop_n _ [0, 1, 4, 5, 6, 7, 8] [0, 0, 0] [(0, .slice A xs.length c), (1, .slice B ys.length d), (4, .slice none 0 0), (5, .slice (some ⟨b3, 0, none⟩) 36 36), (6, .int .i64 i), (7, .int .i64 ((((us.getD (i + k).toNat 0) + cy) + ((xs.getD (i).toNat 0) * (ys.getD (k).toNat 0))) / (256 : Int))), (8, .int .i64 (k + 1))] [row 3 1 (.slice (some ⟨b3, 0, none⟩) 36 36) 36 (nums .i64 (us.set (i + k).toNat ((((us.getD (i + k).toNat 0) + cy) + ((xs.getD (i).toNat 0) * (ys.getD (k).toNat 0))) % (256 : Int)))), vw A (nums .i64 xs), vw B (nums .i64 ys)] (by kernel_rfl) (by kernel_rfl) ?_ ⟨(k + 1), ((((us.getD (i + k).toNat 0) + cy) + ((xs.getD (i).toNat 0) * (ys.getD (k).toNat 0))) / (256 : Int)), (us.set (i + k).toNat ((((us.getD (i + k).toNat 0) + cy) + ((xs.getD (i).toNat 0) * (ys.getD (k).toNat 0))) % (256 : Int))), (by first | assumption | omega | (simp only [List.length_append, List.length_cons, List.length_nil, List.length_set, List.length_replicate, List.length_take, List.length_drop]; omega) | (simp only [fits] at *; omega) | (simp only [List.length_append, List.length_cons, List.length_nil, List.length_set, List.length_replicate, List.length_take, List.length_drop] at *; omega) | (simp; done) | decide), (by first | assumption | omega | (simp only [List.length_append, List.length_cons, List.length_nil, List.length_set, List.length_replicate, List.length_take, List.length_drop]; omega) | (simp only [fits] at *; omega) | (simp only [List.length_append, List.length_cons, List.length_nil, List.length_set, List.length_replicate, List.length_take, List.length_drop] at *; omega) | (simp; done) | decide), (by first | assumption | omega | (simp only [List.length_append, List.length_cons, List.length_nil, List.length_set, List.length_replicate, List.length_take, List.length_drop]; omega) | (simp only [fits] at *; omega) | (simp only [List.length_append, List.length_cons, List.length_nil, List.length_set, List.length_replicate, List.length_take, List.length_drop] at *; omega) | (simp; done) | decide), (by exact In.set hui _ (by simp only [fits]; omega)), (by rw [List.length_set]; exact hul), (by rw [show (i + k).toNat = i.toNat + k.toNat by omega, show (k + 1).toNat = k.toNat + 1 by omega]; exact times_step hul (by omega) huv (by rcases getD_out ys k.toNat with h1 | h1 <;> first | omega | (rw [h1]; omega) | rfl)), (by exact times_kc hx hy hui hul hi hk (by omega) (by omega) hcb.1 huv (by rcases getD_out ys k.toNat with h1 | h1 <;> first | omega | (rw [h1]; omega) | rfl)), rfl, (by first | rfl | simp only [List.length_set]), (by first | rfl | simp only [List.length_set])⟩
      show ((ys.length + 2 - (k + 1)).toNat : Nat) < ((ys.length + 2 - k).toNat : Nat)
      omega
    · skip
      refine RunR.enveq [(0, .slice A xs.length c), (1, .slice B ys.length d), (4, .slice none 0 0), (5, .slice (some ⟨b3, 0, none⟩) 36 36), (6, .int .i64 i), (7, .int .i64 cy), (8, .int .i64 k), (21, .bool false)] (by rw [decide_eq_false h6]; try rfl) ?_
      refine RunR.sil hU [] 3 8 [0, 1, 4, 5, 6, 7, 8, 24] [(0, .slice A xs.length c), (1, .slice B ys.length d), (4, .slice none 0 0), (5, .slice (some ⟨b3, 0, none⟩) 36 36), (6, .int .i64 i), (7, .int .i64 cy), (8, .int .i64 k), (24, .bool (decide (cy > 0)))] ((True) ∧ (True) ∧ (True) ∧ True) rfl (by kernel_rfl) ⟨trivial, trivial, trivial, trivial⟩ ?_
      refine RunR.done (by kernel_rfl) ?_
      refine kseq_n ?_
      refine RunC.condp (cy > 0) (by kernel_rfl) (fun h13 => ?_) (fun h13 => ?_)
      · skip
        refine RunC.skip ?_
        refine kseq_n ?_
        refine RunC.seq ?_
        refine RunC.block ?_
        refine RunC.seq ?_
        refine RunC.region ?_
        refine RunR.sil hU [3] 5 5 [0, 1, 4, 5, 6, 7, 8, 31] [(0, .slice A xs.length c), (1, .slice B ys.length d), (4, .slice none 0 0), (5, .slice (some ⟨b3, 0, none⟩) 36 36), (6, .int .i64 i), (7, .int .i64 cy), (8, .int .i64 k), (31, .pointer (elemAt (some ⟨b3, 0, none⟩) (i + k) 1))] ((True) ∧ (True) ∧ (True) ∧ (-9223372036854775808 ≤ (i + k) ∧ (i + k) < 9223372036854775808) ∧ ((0 ≤ (i + k) ∧ (i + k) < ((36 : Nat) : Int)) ∧ Option.isSome (some ⟨b3, 0, none⟩ : Option Addr) = true) ∧ True) rfl (by kernel_rfl) ⟨trivial, trivial, trivial, (by omega), ⟨by omega, rfl⟩, trivial⟩ ?_
        refine RunR.step (dst := some 32) (op := .load 3 (.tmp 31)) (by kernel_rfl) (Step.load_num hU 0 (row 3 1 (.slice (some ⟨b3, 0, none⟩) 36 36) 36 (nums .i64 us)) (some ⟨b3, 0, none⟩) (i + k) .i64 us rfl (by kernel_rfl) (by kernel_rfl) (tells_row _ _ _ _ _ _) (by kernel_rfl) (by omega) ?_)
        have hb14 : 0 ≤ us.getD ((i + k).toNat) 0 ∧ us.getD ((i + k).toNat) 0 < 256 := hui.at_ _
        refine RunR.sil hU [7] 3 9 [0, 1, 4, 5, 6, 7, 8, 9] [(0, .slice A xs.length c), (1, .slice B ys.length d), (4, .slice none 0 0), (5, .slice (some ⟨b3, 0, none⟩) 36 36), (6, .int .i64 i), (7, .int .i64 cy), (8, .int .i64 k), (9, .int .i64 ((us.getD (i + k).toNat 0) + cy))] ((True) ∧ (-9223372036854775808 ≤ ((us.getD (i + k).toNat 0) + cy) ∧ ((us.getD (i + k).toNat 0) + cy) < 9223372036854775808) ∧ (True) ∧ True) rfl (by kernel_rfl) ⟨trivial, (by omega), trivial, trivial⟩ ?_
        refine RunR.done (by kernel_rfl) ?_
        refine kseq_n ?_
        refine RunC.seq ?_
        refine RunC.seq ?_
        refine RunC.region ?_
        refine RunR.sil hU [] 4 4 [0, 1, 4, 5, 6, 7, 8, 9, 38] [(0, .slice A xs.length c), (1, .slice B ys.length d), (4, .slice none 0 0), (5, .slice (some ⟨b3, 0, none⟩) 36 36), (6, .int .i64 i), (7, .int .i64 cy), (8, .int .i64 k), (9, .int .i64 ((us.getD (i + k).toNat 0) + cy)), (38, .bool (decide (k < ((ys.length : Nat) : Int))))] ((True) ∧ (True) ∧ (True) ∧ (True) ∧ True) rfl (by kernel_rfl) ⟨trivial, trivial, trivial, trivial, trivial⟩ ?_
        refine RunR.env [0, 1, 4, 5, 6, 7, 8, 9, 38] [(0, .slice A xs.length c), (1, .slice B ys.length d), (4, .slice none 0 0), (5, .slice (some ⟨b3, 0, none⟩) 36 36), (6, .int .i64 i), (7, .int .i64 cy), (8, .int .i64 k), (9, .int .i64 ((us.getD (i + k).toNat 0) + cy)), (38, .bool (decide (k < ((ys.length : Nat) : Int))))] (by kernel_rfl) ?_
        have hk15 : ¬ (k < ((ys.length : Nat) : Int)) := by exact h6
        refine RunR.enveq [(0, .slice A xs.length c), (1, .slice B ys.length d), (4, .slice none 0 0), (5, .slice (some ⟨b3, 0, none⟩) 36 36), (6, .int .i64 i), (7, .int .i64 cy), (8, .int .i64 k), (9, .int .i64 ((us.getD (i + k).toNat 0) + cy)), (38, .bool false)] (by rw [decide_eq_false hk15]; try rfl) ?_
        refine RunR.done (by kernel_rfl) ?_
        refine kseq_n ?_
        refine RunC.cond (b := false) (by kernel_rfl) (fun h => by cases h) (fun _ => ?_)
        refine RunC.skip ?_
        refine kseq_n ?_
        refine RunC.seq ?_
        refine RunC.region ?_
        refine RunR.sil hU [3, 5] 7 7 [0, 1, 4, 5, 6, 7, 8, 9, 55, 56] [(0, .slice A xs.length c), (1, .slice B ys.length d), (4, .slice none 0 0), (5, .slice (some ⟨b3, 0, none⟩) 36 36), (6, .int .i64 i), (7, .int .i64 cy), (8, .int .i64 k), (9, .int .i64 ((us.getD (i + k).toNat 0) + cy)), (55, .int .i64 (((us.getD (i + k).toNat 0) + cy) % (256 : Int))), (56, .pointer (elemAt (some ⟨b3, 0, none⟩) (i + k) 1))] ((True) ∧ (True) ∧ (True) ∧ (-9223372036854775808 ≤ (i + k) ∧ (i + k) < 9223372036854775808) ∧ (True) ∧ (0 ≤ ((us.getD (i + k).toNat 0) + cy) ∧ 0 < (256 : Int)) ∧ ((0 ≤ (i + k) ∧ (i + k) < ((36 : Nat) : Int)) ∧ Option.isSome (some ⟨b3, 0, none⟩ : Option Addr) = true) ∧ True) rfl (by kernel_rfl) ⟨trivial, trivial, trivial, (by omega), trivial, (by omega), ⟨by omega, rfl⟩, trivial⟩ ?_
        refine RunR.step (dst := none) (op := .store 3 (.tmp 56) (.tmp 55)) (by kernel_rfl) (Step.store_num hU 0 3 36 36 (some ⟨b3, 0, none⟩) .i64 us (i + k) (((us.getD (i + k).toNat 0) + cy) % (256 : Int)) (by kernel_rfl) (by kernel_rfl) (by kernel_rfl) rfl (by omega) ?_)
        have hl16 : (us.set (i + k).toNat (((us.getD (i + k).toNat 0) + cy) % (256 : Int))).length = us.length := List.length_set
        refine RunR.done (by kernel_rfl) ?_
        refine kseq_n ?_
        refine RunC.region ?_
        refine RunR.sil hU [1] 3 3 [0, 1, 4, 5, 6, 7, 8] [(0, .slice A xs.length c), (1, .slice B ys.length d), (4, .slice none 0 0), (5, .slice (some ⟨b3, 0, none⟩) 36 36), (6, .int .i64 i), (7, .int .i64 (((us.getD (i + k).toNat 0) + cy) / (256 : Int))), (8, .int .i64 k)] ((True) ∧ (0 ≤ ((us.getD (i + k).toNat 0) + cy) ∧ 0 < (256 : Int) ∧ -9223372036854775808 ≤ (((us.getD (i + k).toNat 0) + cy) / (256 : Int)) ∧ (((us.getD (i + k).toNat 0) + cy) / (256 : Int)) < 9223372036854775808) ∧ (True) ∧ True) rfl (by kernel_rfl) ⟨trivial, (by omega), trivial, trivial⟩ ?_
        refine RunR.done (by kernel_rfl) ?_
        refine kblock_n ?_
        refine kseq_n ?_
        refine RunC.region ?_
        refine RunR.sil hU [1] 3 3 [0, 1, 4, 5, 6, 7, 8] [(0, .slice A xs.length c), (1, .slice B ys.length d), (4, .slice none 0 0), (5, .slice (some ⟨b3, 0, none⟩) 36 36), (6, .int .i64 i), (7, .int .i64 (((us.getD (i + k).toNat 0) + cy) / (256 : Int))), (8, .int .i64 (k + 1))] ((True) ∧ (-9223372036854775808 ≤ (k + 1) ∧ (k + 1) < 9223372036854775808) ∧ (True) ∧ True) rfl (by kernel_rfl) ⟨trivial, (by omega), trivial, trivial⟩ ?_
        refine RunR.done (by kernel_rfl) ?_
        refine kloop_n _ [0, 1, 4, 5, 6, 7, 8] [0, 0, 0] [(0, .slice A xs.length c), (1, .slice B ys.length d), (4, .slice none 0 0), (5, .slice (some ⟨b3, 0, none⟩) 36 36), (6, .int .i64 i), (7, .int .i64 (((us.getD (i + k).toNat 0) + cy) / (256 : Int))), (8, .int .i64 (k + 1))] [row 3 1 (.slice (some ⟨b3, 0, none⟩) 36 36) 36 (nums .i64 (us.set (i + k).toNat (((us.getD (i + k).toNat 0) + cy) % (256 : Int)))), vw A (nums .i64 xs), vw B (nums .i64 ys)] (by kernel_rfl) (by kernel_rfl) ?_ ⟨(k + 1), (((us.getD (i + k).toNat 0) + cy) / (256 : Int)), (us.set (i + k).toNat (((us.getD (i + k).toNat 0) + cy) % (256 : Int))), (by first | assumption | omega | (simp only [List.length_append, List.length_cons, List.length_nil, List.length_set, List.length_replicate, List.length_take, List.length_drop]; omega) | (simp only [fits] at *; omega) | (simp only [List.length_append, List.length_cons, List.length_nil, List.length_set, List.length_replicate, List.length_take, List.length_drop] at *; omega) | (simp; done) | decide), (by first | assumption | omega | (simp only [List.length_append, List.length_cons, List.length_nil, List.length_set, List.length_replicate, List.length_take, List.length_drop]; omega) | (simp only [fits] at *; omega) | (simp only [List.length_append, List.length_cons, List.length_nil, List.length_set, List.length_replicate, List.length_take, List.length_drop] at *; omega) | (simp; done) | decide), (by first | assumption | omega | (simp only [List.length_append, List.length_cons, List.length_nil, List.length_set, List.length_replicate, List.length_take, List.length_drop]; omega) | (simp only [fits] at *; omega) | (simp only [List.length_append, List.length_cons, List.length_nil, List.length_set, List.length_replicate, List.length_take, List.length_drop] at *; omega) | (simp; done) | decide), (by exact In.set hui _ (by simp only [fits]; omega)), (by rw [List.length_set]; exact hul), (by rw [show (i + k).toNat = i.toNat + k.toNat by omega, show (k + 1).toNat = k.toNat + 1 by omega]; exact times_step hul (by omega) huv (by rcases getD_out ys k.toNat with h1 | h1 <;> first | omega | (rw [h1]; omega) | rfl)), (by exact times_kc hx hy hui hul hi hk (by omega) (by omega) hcb.1 huv (by rcases getD_out ys k.toNat with h1 | h1 <;> first | omega | (rw [h1]; omega) | rfl)), rfl, (by first | rfl | simp only [List.length_set]), (by first | rfl | simp only [List.length_set])⟩
        show ((ys.length + 2 - (k + 1)).toNat : Nat) < ((ys.length + 2 - k).toNat : Nat)
        omega
      · skip
        refine RunC.exit ?_
        refine kseq_e ?_
        refine kloop_e ?_
        refine kblock_e ?_
        refine kblock_n ?_
        refine kseq_n ?_
        refine RunC.region ?_
        refine RunR.sil hU [1] 3 3 [0, 1, 4, 5, 6] [(0, .slice A xs.length c), (1, .slice B ys.length d), (4, .slice none 0 0), (5, .slice (some ⟨b3, 0, none⟩) 36 36), (6, .int .i64 (i + 1))] ((True) ∧ (-9223372036854775808 ≤ (i + 1) ∧ (i + 1) < 9223372036854775808) ∧ (True) ∧ True) rfl (by kernel_rfl) ⟨trivial, (by omega), trivial, trivial⟩ ?_
        refine RunR.done (by kernel_rfl) ?_
        refine kloop_n _ [0, 1, 4, 5, 6] [0, 0, 0] [(0, .slice A xs.length c), (1, .slice B ys.length d), (4, .slice none 0 0), (5, .slice (some ⟨b3, 0, none⟩) 36 36), (6, .int .i64 (i + 1))] [row 3 1 (.slice (some ⟨b3, 0, none⟩) 36 36) 36 (nums .i64 us), vw A (nums .i64 xs), vw B (nums .i64 ys)] (by kernel_rfl) (by kernel_rfl) ?_ ⟨(i + 1), us, (by first | assumption | omega | (simp only [List.length_append, List.length_cons, List.length_nil, List.length_set, List.length_replicate, List.length_take, List.length_drop]; omega) | (simp only [fits] at *; omega) | (simp only [List.length_append, List.length_cons, List.length_nil, List.length_set, List.length_replicate, List.length_take, List.length_drop] at *; omega) | (simp; done) | decide), (by first | assumption | omega | (simp only [List.length_append, List.length_cons, List.length_nil, List.length_set, List.length_replicate, List.length_take, List.length_drop]; omega) | (simp only [fits] at *; omega) | (simp only [List.length_append, List.length_cons, List.length_nil, List.length_set, List.length_replicate, List.length_take, List.length_drop] at *; omega) | (simp; done) | decide), (by exact hui), (by exact hul), (by rw [show (i + 1).toNat = i.toNat + 1 by omega]; exact times_row huv (by omega) (by omega) (by omega)), rfl, (by first | rfl | simp only [List.length_set]), (by first | rfl | simp only [List.length_set])⟩
        show ((xs.length - (i + 1)).toNat : Nat) < ((xs.length - i).toNat : Nat)
        omega
  · skip
    refine RunC.exit ?_
    refine kseq_e ?_
    refine kloop_e ?_
    refine kblock_e ?_
    refine kseq_n ?_
    refine RunC.seq ?_
    refine RunC.region ?_
    refine RunR.sil hU [] 2 2 [4] [(4, .slice (some ⟨b3, 0, none⟩) 36 36)] ((True) ∧ (True) ∧ True) rfl (by kernel_rfl) ⟨trivial, trivial, trivial⟩ ?_
    refine RunR.done (by kernel_rfl) ?_
    refine kseq_n ?_
    refine RunC.ret ?_
    refine kret_r [.slice (some ⟨b3, 0, none⟩) 36 36] [0] [row 3 1 (.slice (some ⟨b3, 0, none⟩) 36 36) 36 (nums .i64 os)] ⟨rfl, trivial⟩ (by kernel_rfl) rfl ⟨(some ⟨b3, 0, none⟩), 36, os, (by first | rfl | (first | (rw [hol]; done) | (rw [hol]; rfl))), (by first | rfl | (first | (rw [hol]; done) | (rw [hol]; rfl))), (by exact hoi), (by exact hol), (by rw [hov, show i.toNat = xs.length by omega]), (by first | assumption | omega), (by first | assumption | (intro h; rfl))⟩

theorem r_prime_spec  :
    CallsS Try.prog 71 [] [] (fun r D => ∃ (A2 : Option Addr) (c2 : Nat) (zs : List Int), r = .slice A2 17 c2 ∧ D = [row 3 1 (.slice A2 17 c2) 17 (nums .i64 zs)] ∧ (zs = primeD) ∧ (zs.length = 17) ∧ (In .u8 zs) ∧ (17 ≤ c2) ∧ (0 < 17 → Option.isSome A2 = true)) := by
  refine CallsS.enter hU Try.f71 _ [.tmp 0] 16 Try.func71 rfl (by decide) rfl rfl (by kernel_rfl) fun w0 W => ?_
  refine RunC.seq ?_
  refine RunC.region ?_
  refine RunR.sil hU [] 1 1 [0] [(0, .slice none 0 0)] ((True) ∧ True) rfl (by kernel_rfl) ⟨trivial, trivial⟩ ?_
  refine RunR.done (by kernel_rfl) ?_
  refine kseq_n ?_
  refine RunC.seq ?_
  refine RunC.region ?_
  refine RunR.step (dst := some 3) (op := .makeSlice 82 (.const (.int .i64 17)) (.const (.int .i64 17))) (by kernel_rfl) (Step.make_nums hU 3 8 .i64 .i64 .i64 (17) rfl rfl (by kernel_rfl) (by kernel_rfl) (by omega) (by omega) (by kernel_rfl) (fun b1 => ?_))
  have hl2 : (List.replicate 17 (0 : Int)).length = 17 := List.length_replicate
  refine RunR.sil hU [] 1 2 [0, 1] [(0, .slice none 0 0), (1, .slice (some ⟨b1, 0, none⟩) 17 17)] ((True) ∧ True) rfl (by kernel_rfl) ⟨trivial, trivial⟩ ?_
  refine RunR.done (by kernel_rfl) ?_
  refine kseq_n ?_
  refine RunC.seq ?_
  refine RunC.seq ?_
  refine RunC.region ?_
  refine RunR.sil hU [] 1 1 [0, 1, 2] [(0, .slice none 0 0), (1, .slice (some ⟨b1, 0, none⟩) 17 17), (2, .int .i64 0)] ((True) ∧ True) rfl (by kernel_rfl) ⟨trivial, trivial⟩ ?_
  refine RunR.done (by kernel_rfl) ?_
  refine kseq_n ?_
  refine RunC.block ?_
  refine RunC.env [0, 1, 2] [(0, .slice none 0 0), (1, .slice (some ⟨b1, 0, none⟩) 17 17), (2, .int .i64 0)] (by kernel_rfl) ?_
  refine RunC.only [0] [row 3 1 (.slice (some ⟨b1, 0, none⟩) 17 17) 17 (nums .i64 (List.replicate 17 (0 : Int)))] (by kernel_rfl) ?_
  refine RunC.loop (σ := Nat) (fun n_ t_ D_ => ∃ (i : Int) (os : List Int), (0 ≤ i) ∧ (i ≤ 16) ∧ (os = F.mapP (fun _ => 255) (List.replicate 17 0) i.toNat) ∧ (os.length = 17) ∧ n_ = ((16 - i).toNat : Nat) ∧ t_ = [(0, .slice none 0 0), (1, .slice (some ⟨b1, 0, none⟩) 17 17), (2, .int .i64 i)] ∧ D_ = [row 3 1 (.slice (some ⟨b1, 0, none⟩) 17 17) 17 (nums .i64 os)]) id _ ⟨0, (List.replicate 17 (0 : Int)), (by first | assumption | omega | (simp only [List.length_append, List.length_cons, List.length_nil, List.length_set, List.length_replicate, List.length_take, List.length_drop]; omega) | (simp only [fits] at *; omega) | (simp only [List.length_append, List.length_cons, List.length_nil, List.length_set, List.length_replicate, List.length_take, List.length_drop] at *; omega) | (simp; done) | decide), (by first | assumption | omega | (simp only [List.length_append, List.length_cons, List.length_nil, List.length_set, List.length_replicate, List.length_take, List.length_drop]; omega) | (simp only [fits] at *; omega) | (simp only [List.length_append, List.length_cons, List.length_nil, List.length_set, List.length_replicate, List.length_take, List.length_drop] at *; omega) | (simp; done) | decide), (by rfl), (by simp), rfl, rfl, rfl⟩ ?_
  rintro n_ _ _ ⟨i, os, hi, hi2, ho, hol, rfl, rfl, rfl⟩
  refine RunC.seq ?_
  refine RunC.seq ?_
  refine RunC.region ?_
  refine RunR.sil hU [] 2 2 [0, 1, 2, 5] [(0, .slice none 0 0), (1, .slice (some ⟨b1, 0, none⟩) 17 17), (2, .int .i64 i), (5, .bool (decide (i < 16)))] ((True) ∧ (True) ∧ True) rfl (by kernel_rfl) ⟨trivial, trivial, trivial⟩ ?_
  refine RunR.done (by kernel_rfl) ?_
  refine kseq_n ?_
  refine RunC.condp (i < 16) (by kernel_rfl) (fun h3 => ?_) (fun h3 => ?_)
  · skip
    refine RunC.skip ?_
    refine kseq_n ?_
    refine RunC.seq ?_
    refine RunC.block ?_
    refine RunC.region ?_
    refine RunR.sil hU [] 3 3 [0, 1, 2, 10] [(0, .slice none 0 0), (1, .slice (some ⟨b1, 0, none⟩) 17 17), (2, .int .i64 i), (10, .pointer (elemAt (some ⟨b1, 0, none⟩) i 1))] ((True) ∧ (True) ∧ ((0 ≤ i ∧ i < ((17 : Nat) : Int)) ∧ Option.isSome (some ⟨b1, 0, none⟩ : Option Addr) = true) ∧ True) rfl (by kernel_rfl) ⟨trivial, trivial, ⟨by omega, rfl⟩, trivial⟩ ?_
    refine RunR.step (dst := none) (op := .store 3 (.tmp 10) (.const (.int .i64 255))) (by kernel_rfl) (Step.store_num hU 0 3 17 17 (some ⟨b1, 0, none⟩) .i64 os i 255 (by kernel_rfl) (by kernel_rfl) (by kernel_rfl) rfl (by omega) ?_)
    have hl4 : (os.set (i).toNat 255).length = os.length := List.length_set
    refine RunR.done (by kernel_rfl) ?_
    refine kblock_n ?_
    refine kseq_n ?_
    refine RunC.region ?_
    refine RunR.sil hU [1] 3 3 [0, 1, 2] [(0, .slice none 0 0), (1, .slice (some ⟨b1, 0, none⟩) 17 17), (2, .int .i64 (i + 1))] ((True) ∧ (-9223372036854775808 ≤ (i + 1) ∧ (i + 1) < 9223372036854775808) ∧ (True) ∧ True) rfl (by kernel_rfl) ⟨trivial, (by omega), trivial, trivial⟩ ?_
    refine RunR.done (by kernel_rfl) ?_
    refine kloop_n _ [0, 1, 2] [0] [(0, .slice none 0 0), (1, .slice (some ⟨b1, 0, none⟩) 17 17), (2, .int .i64 (i + 1))] [row 3 1 (.slice (some ⟨b1, 0, none⟩) 17 17) 17 (nums .i64 (os.set (i).toNat 255))] (by kernel_rfl) (by kernel_rfl) ?_ ⟨(i + 1), (os.set (i).toNat 255), (by first | assumption | omega | (simp only [List.length_append, List.length_cons, List.length_nil, List.length_set, List.length_replicate, List.length_take, List.length_drop]; omega) | (simp only [fits] at *; omega) | (simp only [List.length_append, List.length_cons, List.length_nil, List.length_set, List.length_replicate, List.length_take, List.length_drop] at *; omega) | (simp; done) | decide), (by first | assumption | omega | (simp only [List.length_append, List.length_cons, List.length_nil, List.length_set, List.length_replicate, List.length_take, List.length_drop]; omega) | (simp only [fits] at *; omega) | (simp only [List.length_append, List.length_cons, List.length_nil, List.length_set, List.length_replicate, List.length_take, List.length_drop] at *; omega) | (simp; done) | decide), (by rw [ho, show (i + 1).toNat = i.toNat + 1 by omega]; exact F.mapP_step (fun _ => 255) _ _ (by simp; omega)), (by rw [List.length_set]; exact hol), rfl, (by first | rfl | simp only [List.length_set]), (by first | rfl | simp only [List.length_set])⟩
    show ((16 - (i + 1)).toNat : Nat) < ((16 - i).toNat : Nat)
    omega
  · skip
    refine RunC.exit ?_
    refine kseq_e ?_
    refine kloop_e ?_
    refine kblock_e ?_
    refine kseq_n ?_
    refine RunC.seq ?_
    refine RunC.region ?_
    refine RunR.sil hU [] 2 2 [0, 1, 12] [(0, .slice none 0 0), (1, .slice (some ⟨b1, 0, none⟩) 17 17), (12, .pointer (elemAt (some ⟨b1, 0, none⟩) 0 1))] ((True) ∧ ((0 ≤ (0 : Int) ∧ (0 : Int) < ((17 : Nat) : Int)) ∧ Option.isSome (some ⟨b1, 0, none⟩ : Option Addr) = true) ∧ True) rfl (by kernel_rfl) ⟨trivial, ⟨by omega, rfl⟩, trivial⟩ ?_
    refine RunR.step (dst := none) (op := .store 3 (.tmp 12) (.const (.int .i64 251))) (by kernel_rfl) (Step.store_num hU 0 3 17 17 (some ⟨b1, 0, none⟩) .i64 os 0 251 (by kernel_rfl) (by kernel_rfl) (by kernel_rfl) rfl (by omega) ?_)
    have hl5 : (os.set (0 : Int).toNat 251).length = os.length := List.length_set
    refine RunR.done (by kernel_rfl) ?_
    refine kseq_n ?_
    refine RunC.seq ?_
    refine RunC.region ?_
    refine RunR.sil hU [] 2 2 [0, 1, 14] [(0, .slice none 0 0), (1, .slice (some ⟨b1, 0, none⟩) 17 17), (14, .pointer (elemAt (some ⟨b1, 0, none⟩) 16 1))] ((True) ∧ ((0 ≤ (16 : Int) ∧ (16 : Int) < ((17 : Nat) : Int)) ∧ Option.isSome (some ⟨b1, 0, none⟩ : Option Addr) = true) ∧ True) rfl (by kernel_rfl) ⟨trivial, ⟨by omega, rfl⟩, trivial⟩ ?_
    refine RunR.step (dst := none) (op := .store 3 (.tmp 14) (.const (.int .i64 3))) (by kernel_rfl) (Step.store_num hU 0 3 17 17 (some ⟨b1, 0, none⟩) .i64 (os.set (0 : Int).toNat 251) 16 3 (by kernel_rfl) (by kernel_rfl) (by kernel_rfl) rfl (by omega) ?_)
    have hl6 : ((os.set (0 : Int).toNat 251).set (16 : Int).toNat 3).length = (os.set (0 : Int).toNat 251).length := List.length_set
    refine RunR.done (by kernel_rfl) ?_
    refine kseq_n ?_
    refine RunC.seq ?_
    refine RunC.region ?_
    refine RunR.sil hU [] 2 2 [0] [(0, .slice (some ⟨b1, 0, none⟩) 17 17)] ((True) ∧ (True) ∧ True) rfl (by kernel_rfl) ⟨trivial, trivial, trivial⟩ ?_
    refine RunR.done (by kernel_rfl) ?_
    refine kseq_n ?_
    refine RunC.ret ?_
    refine kret_r [.slice (some ⟨b1, 0, none⟩) 17 17] [0] [row 3 1 (.slice (some ⟨b1, 0, none⟩) 17 17) 17 (nums .i64 ((os.set (0 : Int).toNat 251).set (16 : Int).toNat 3))] ⟨rfl, trivial⟩ (by kernel_rfl) rfl ⟨(some ⟨b1, 0, none⟩), 17, ((os.set (0 : Int).toNat 251).set (16 : Int).toNat 3), rfl, rfl, (by exact primeD_end (by rw [ho, show i = 16 by omega] <;> rfl)), (by rw [List.length_set, List.length_set]; exact hol), (by have h_ := primeD_in; rw [← primeD_end (os := os) (by rw [ho, show i = 16 by omega] <;> rfl)] at h_; exact h_), (by first | assumption | omega), (by first | assumption | (rw [List.length_set]; assumption) | (intro h; rfl))⟩

theorem r_less_spec (A : Option Addr) (c : Nat) (xs : List Int) (B : Option Addr) (d : Nat) (ys : List Int) (l_xs : Nat) (l_ys : Nat) (hx : In .u8 xs) (hy : In .u8 ys) (hlx : xs.length = 17) (hly : ys.length = 17) (hl_xs : xs.length = l_xs) (hl_ys : ys.length = l_ys) :
    CallsS Try.prog 72 [.slice A l_xs c, .slice B l_ys d] [vw A (nums .i64 xs), vw B (nums .i64 ys)] (fun r D => r = .bool (decide (leN xs 17 < leN ys 17)) ∧ D = []) := by
  subst hl_xs
  subst hl_ys
  refine CallsS.enter hU Try.f72 _ [.tmp 4] 28 Try.func72 rfl (by decide) rfl rfl (by kernel_rfl) fun w0 W => ?_
  refine RunC.know (p := 0 < xs.length → Option.isSome A = true) (fun _ _ w hs => vw_some hs 0 rfl (by simp [nums_length])) (fun hA1 => ?_)
  refine RunC.know (p := 0 < ys.length → Option.isSome B = true) (fun _ _ w hs => vw_some hs 1 rfl (by simp [nums_length])) (fun hA2 => ?_)
  refine RunC.seq ?_
  refine RunC.region ?_
  refine RunR.sil hU [] 1 1 [0, 1, 4] [(0, .slice A xs.length c), (1, .slice B ys.length d), (4, .bool false)] ((True) ∧ True) rfl (by kernel_rfl) ⟨trivial, trivial⟩ ?_
  refine RunR.done (by kernel_rfl) ?_
  refine kseq_n ?_
  refine RunC.seq ?_
  refine RunC.seq ?_
  refine RunC.region ?_
  refine RunR.sil hU [] 1 1 [0, 1, 4, 5] [(0, .slice A xs.length c), (1, .slice B ys.length d), (4, .bool false), (5, .int .i64 16)] ((True) ∧ True) rfl (by kernel_rfl) ⟨trivial, trivial⟩ ?_
  refine RunR.done (by kernel_rfl) ?_
  refine kseq_n ?_
  refine RunC.block ?_
  refine RunC.env [0, 1, 5] [(0, .slice A xs.length c), (1, .slice B ys.length d), (5, .int .i64 16)] (by kernel_rfl) ?_
  refine RunC.only [0, 0] [vw A (nums .i64 xs), vw B (nums .i64 ys)] (by kernel_rfl) ?_
  refine RunC.loop (σ := Nat) (fun n_ t_ D_ => ∃ (i : Int), (-1 ≤ i) ∧ (i ≤ 16) ∧ (xs.drop (i + 1).toNat = ys.drop (i + 1).toNat) ∧ n_ = ((i + 1).toNat : Nat) ∧ t_ = [(0, .slice A xs.length c), (1, .slice B ys.length d), (5, .int .i64 i)] ∧ D_ = [vw A (nums .i64 xs), vw B (nums .i64 ys)]) id _ ⟨16, (by first | assumption | omega | (simp only [List.length_append, List.length_cons, List.length_nil, List.length_set, List.length_replicate, List.length_take, List.length_drop]; omega) | (simp only [fits] at *; omega) | (simp only [List.length_append, List.length_cons, List.length_nil, List.length_set, List.length_replicate, List.length_take, List.length_drop] at *; omega) | (simp; done) | decide), (by first | assumption | omega | (simp only [List.length_append, List.length_cons, List.length_nil, List.length_set, List.length_replicate, List.length_take, List.length_drop]; omega) | (simp only [fits] at *; omega) | (simp only [List.length_append, List.length_cons, List.length_nil, List.length_set, List.length_replicate, List.length_take, List.length_drop] at *; omega) | (simp; done) | decide), (by rw [List.drop_of_length_le (by rw [hlx]; decide), List.drop_of_length_le (by rw [hly]; decide)]), rfl, rfl, rfl⟩ ?_
  rintro n_ _ _ ⟨i, hi, hi2, hd, rfl, rfl, rfl⟩
  refine RunC.seq ?_
  refine RunC.seq ?_
  refine RunC.region ?_
  refine RunR.sil hU [] 2 2 [0, 1, 5, 7] [(0, .slice A xs.length c), (1, .slice B ys.length d), (5, .int .i64 i), (7, .bool (decide (i ≥ 0)))] ((True) ∧ (True) ∧ True) rfl (by kernel_rfl) ⟨trivial, trivial, trivial⟩ ?_
  refine RunR.done (by kernel_rfl) ?_
  refine kseq_n ?_
  refine RunC.condp (i ≥ 0) (by kernel_rfl) (fun h3 => ?_) (fun h3 => ?_)
  · skip
    refine RunC.skip ?_
    refine kseq_n ?_
    refine RunC.seq ?_
    refine RunC.block ?_
    refine RunC.seq ?_
    refine RunC.regionU hU 9 [vw A (nums .i64 xs), vw B (nums .i64 ys)] [0, 1] [] (bm 9 0) (by kernel_rfl) (by kernel_rfl) (by kernel_rfl) ?_
    refine RunU.sil hU false 0 (bm 9 1) 10 (.slice A xs.length c) (True) (by kernel_rfl) trivial (by kernel_rfl) (by kernel_rfl) (fun _ _ _ h => h) ?_
    refine RunU.sil hU false 1 (bm 9 3) 11 (.int .i64 i) (True) (by kernel_rfl) trivial (by kernel_rfl) (by kernel_rfl) (fun _ _ _ h => h) ?_
    refine RunU.sil hU false 2 (bm 9 7) 12 (.pointer (elemAt A i 1)) ((0 ≤ i ∧ i < ((xs.length : Nat) : Int)) ∧ Option.isSome A = true) (by kernel_rfl) ⟨by omega, hA1 (by omega)⟩ (by kernel_rfl) (by kernel_rfl) (fun _ _ _ h => h) ?_
    refine RunU.read 3 (bm 9 15) 13 (.load 3 (.tmp 12)) (.int .i64 (xs.getD (i).toNat 0)) [0, 1] (by kernel_rfl) (Reads.load_num hU 0 (vw A (nums .i64 xs)) A i .i64 xs rfl (by kernel_rfl) (by kernel_rfl) (tells_vw _ _) (by omega)) (by kernel_rfl) (by kernel_rfl) (by kernel_rfl) (by kernel_rfl) (fun _ _ _ h => h) ?_
    have hb4 : 0 ≤ xs.getD ((i).toNat) 0 ∧ xs.getD ((i).toNat) 0 < 256 := hx.at_ _
    refine RunU.sil hU false 4 (bm 9 31) 14 (.slice B ys.length d) (True) (by kernel_rfl) trivial (by kernel_rfl) (by kernel_rfl) (fun _ _ _ h => h) ?_
    refine RunU.sil hU false 5 (bm 9 63) 15 (.int .i64 i) (True) (by kernel_rfl) trivial (by kernel_rfl) (by kernel_rfl) (fun _ _ _ h => h) ?_
    refine RunU.sil hU false 6 (bm 9 127) 16 (.pointer (elemAt B i 1)) ((0 ≤ i ∧ i < ((ys.length : Nat) : Int)) ∧ Option.isSome B = true) (by kernel_rfl) ⟨by omega, hA2 (by omega)⟩ (by kernel_rfl) (by kernel_rfl) (fun _ _ _ h => h) ?_
    refine RunU.read 7 (bm 9 255) 17 (.load 3 (.tmp 16)) (.int .i64 (ys.getD (i).toNat 0)) [0, 1] (by kernel_rfl) (Reads.load_num hU 1 (vw B (nums .i64 ys)) B i .i64 ys rfl (by kernel_rfl) (by kernel_rfl) (tells_vw _ _) (by omega)) (by kernel_rfl) (by kernel_rfl) (by kernel_rfl) (by kernel_rfl) (fun _ _ _ h => h) ?_
    have hb5 : 0 ≤ ys.getD ((i).toNat) 0 ∧ ys.getD ((i).toNat) 0 < 256 := hy.at_ _
    refine RunU.sil hU false 8 (bm 9 511) 18 (.bool (!decide ((xs.getD (i).toNat 0) = (ys.getD (i).toNat 0)))) (True) (by kernel_rfl) trivial (by kernel_rfl) (by kernel_rfl) (fun _ _ _ h => h) ?_
    refine RunU.env [0, 1, 5, 18] [(0, .slice A xs.length c), (1, .slice B ys.length d), (5, .int .i64 i), (18, .bool (!decide ((xs.getD (i).toNat 0) = (ys.getD (i).toNat 0))))] (by kernel_rfl) ?_
    refine RunU.done (by kernel_rfl) ?_
    refine kseq_n ?_
    refine RunC.condn ((xs.getD (i).toNat 0) = (ys.getD (i).toNat 0)) (by kernel_rfl) (fun h6 => ?_) (fun h6 => ?_)
    · skip
      refine RunC.seq ?_
      refine RunC.regionU hU 10 [vw A (nums .i64 xs), vw B (nums .i64 ys)] [0, 1] [9] (bm 10 0) (by kernel_rfl) (by kernel_rfl) (by kernel_rfl) ?_
      refine RunU.sil hU false 0 (bm 10 1) 19 (.slice A xs.length c) (True) (by kernel_rfl) trivial (by kernel_rfl) (by kernel_rfl) (fun _ _ _ h => h) ?_
      refine RunU.sil hU false 1 (bm 10 3) 20 (.int .i64 i) (True) (by kernel_rfl) trivial (by kernel_rfl) (by kernel_rfl) (fun _ _ _ h => h) ?_
      refine RunU.sil hU false 2 (bm 10 7) 21 (.pointer (elemAt A i 1)) ((0 ≤ i ∧ i < ((xs.length : Nat) : Int)) ∧ Option.isSome A = true) (by kernel_rfl) ⟨by omega, hA1 (by omega)⟩ (by kernel_rfl) (by kernel_rfl) (fun _ _ _ h => h) ?_
      refine RunU.read 3 (bm 10 15) 22 (.load 3 (.tmp 21)) (.int .i64 (xs.getD (i).toNat 0)) [0, 1] (by kernel_rfl) (Reads.load_num hU 0 (vw A (nums .i64 xs)) A i .i64 xs rfl (by kernel_rfl) (by kernel_rfl) (tells_vw _ _) (by omega)) (by kernel_rfl) (by kernel_rfl) (by kernel_rfl) (by kernel_rfl) (fun _ _ _ h => h) ?_
      have hb7 : 0 ≤ xs.getD ((i).toNat) 0 ∧ xs.getD ((i).toNat) 0 < 256 := hx.at_ _
      refine RunU.sil hU false 4 (bm 10 31) 23 (.slice B ys.length d) (True) (by kernel_rfl) trivial (by kernel_rfl) (by kernel_rfl) (fun _ _ _ h => h) ?_
      refine RunU.sil hU false 5 (bm 10 63) 24 (.int .i64 i) (True) (by kernel_rfl) trivial (by kernel_rfl) (by kernel_rfl) (fun _ _ _ h => h) ?_
      refine RunU.sil hU false 6 (bm 10 127) 25 (.pointer (elemAt B i 1)) ((0 ≤ i ∧ i < ((ys.length : Nat) : Int)) ∧ Option.isSome B = true) (by kernel_rfl) ⟨by omega, hA2 (by omega)⟩ (by kernel_rfl) (by kernel_rfl) (fun _ _ _ h => h) ?_
      refine RunU.read 7 (bm 10 255) 26 (.load 3 (.tmp 25)) (.int .i64 (ys.getD (i).toNat 0)) [0, 1] (by kernel_rfl) (Reads.load_num hU 1 (vw B (nums .i64 ys)) B i .i64 ys rfl (by kernel_rfl) (by kernel_rfl) (tells_vw _ _) (by omega)) (by kernel_rfl) (by kernel_rfl) (by kernel_rfl) (by kernel_rfl) (fun _ _ _ h => h) ?_
      have hb8 : 0 ≤ ys.getD ((i).toNat) 0 ∧ ys.getD ((i).toNat) 0 < 256 := hy.at_ _
      refine RunU.sil hU false 8 (bm 10 511) 27 (.bool (decide ((xs.getD (i).toNat 0) < (ys.getD (i).toNat 0)))) (True) (by kernel_rfl) trivial (by kernel_rfl) (by kernel_rfl) (fun _ _ _ h => h) ?_
      refine RunU.sil hU false 9 (bm 10 1023) 4 (.bool (decide ((xs.getD (i).toNat 0) < (ys.getD (i).toNat 0)))) (True) (by kernel_rfl) trivial (by kernel_rfl) (by kernel_rfl) (fun _ _ _ h => h) ?_
      refine RunU.env [0, 1, 4, 5] [(0, .slice A xs.length c), (1, .slice B ys.length d), (4, .bool (decide ((xs.getD (i).toNat 0) < (ys.getD (i).toNat 0)))), (5, .int .i64 i)] (by kernel_rfl) ?_
      refine RunU.done (by kernel_rfl) ?_
      refine kseq_n ?_
      refine RunC.ret ?_
      refine kblock_r ?_
      refine kseq_r ?_
      refine kloop_r ?_
      refine kblock_r ?_
      refine kseq_r ?_
      refine kret_r [.bool (decide ((xs.getD (i).toNat 0) < (ys.getD (i).toNat 0)))] [] [] ⟨rfl, trivial⟩ (by kernel_rfl) rfl ⟨(by first | rfl | (exact congrArg Value.bool (less17 hx hy (by omega) (by rw [show (i + 1).toNat = i.toNat + 1 by omega] at hd; exact hd) (by assumption)))), (by first | rfl | (exact congrArg Value.bool (less17 hx hy (by omega) (by rw [show (i + 1).toNat = i.toNat + 1 by omega] at hd; exact hd) (by assumption))))⟩
    · skip
      refine RunC.skip ?_
      refine kblock_n ?_
      refine kseq_n ?_
      refine RunC.region ?_
      refine RunR.sil hU [1] 3 3 [0, 1, 5] [(0, .slice A xs.length c), (1, .slice B ys.length d), (5, .int .i64 (i - 1))] ((True) ∧ (-9223372036854775808 ≤ (i - 1) ∧ (i - 1) < 9223372036854775808) ∧ (True) ∧ True) rfl (by kernel_rfl) ⟨trivial, (by omega), trivial, trivial⟩ ?_
      refine RunR.done (by kernel_rfl) ?_
      refine kloop_n _ [0, 1, 5] [0, 0] [(0, .slice A xs.length c), (1, .slice B ys.length d), (5, .int .i64 (i - 1))] [vw A (nums .i64 xs), vw B (nums .i64 ys)] (by kernel_rfl) (by kernel_rfl) ?_ ⟨(i - 1), (by first | assumption | omega | (simp only [List.length_append, List.length_cons, List.length_nil, List.length_set, List.length_replicate, List.length_take, List.length_drop]; omega) | (simp only [fits] at *; omega) | (simp only [List.length_append, List.length_cons, List.length_nil, List.length_set, List.length_replicate, List.length_take, List.length_drop] at *; omega) | (simp; done) | decide), (by first | assumption | omega | (simp only [List.length_append, List.length_cons, List.length_nil, List.length_set, List.length_replicate, List.length_take, List.length_drop]; omega) | (simp only [fits] at *; omega) | (simp only [List.length_append, List.length_cons, List.length_nil, List.length_set, List.length_replicate, List.length_take, List.length_drop] at *; omega) | (simp; done) | decide), (by rw [show (i - 1 + 1).toNat = i.toNat by omega]; rw [show (i + 1).toNat = i.toNat + 1 by omega] at hd; exact N.drop_step (by omega) (by omega) hd (by omega)), rfl, (by first | rfl | simp only [List.length_set]), (by first | rfl | simp only [List.length_set])⟩
      show (((i - 1) + 1).toNat : Nat) < ((i + 1).toNat : Nat)
      omega
  · skip
    refine RunC.exit ?_
    refine kseq_e ?_
    refine kloop_e ?_
    refine kblock_e ?_
    refine kseq_n ?_
    refine RunC.seq ?_
    refine RunC.region ?_
    refine RunR.sil hU [] 1 1 [4] [(4, .bool false)] ((True) ∧ True) rfl (by kernel_rfl) ⟨trivial, trivial⟩ ?_
    refine RunR.done (by kernel_rfl) ?_
    refine kseq_n ?_
    refine RunC.ret ?_
    refine kret_r [.bool false] [] [] ⟨rfl, trivial⟩ (by kernel_rfl) rfl ⟨(by first | rfl | (exact congrArg Value.bool (less17_end (by rw [show (i + 1).toNat = 0 by omega] at hd; exact hd)))), (by first | rfl | (exact congrArg Value.bool (less17_end (by rw [show (i + 1).toNat = 0 by omega] at hd; exact hd))))⟩
end Go.Proofs.Ytoaoabnhkiijpaa.X7
