/- What these functions compute: a contract for each, walked through its code. -/
import Derived.Test.YtoaoabnhkiijpaaRPure
import Derived.Test.YtoaoabnhkiijpaaProg
import Derived.Test.YtoaoabnhkiijpaaX1
import Derived.Test.YtoaoabnhkiijpaaX2
import Derived.Test.YtoaoabnhkiijpaaX3
import Derived.Test.YtoaoabnhkiijpaaX4
import Derived.Test.YtoaoabnhkiijpaaX5
namespace Go.Proofs.Ytoaoabnhkiijpaa.X6
open Go Go.Proofs.Ytoaoabnhkiijpaa.SL Go.Proofs.Ytoaoabnhkiijpaa.SL.W Go.Proofs.Ytoaoabnhkiijpaa.SL.Y Go.Proofs.Ytoaoabnhkiijpaa.X1 Go.Proofs.Ytoaoabnhkiijpaa.X2 Go.Proofs.Ytoaoabnhkiijpaa.X3 Go.Proofs.Ytoaoabnhkiijpaa.X4 Go.Proofs.Ytoaoabnhkiijpaa.X5
set_option linter.unusedVariables false
set_option linter.unusedSimpArgs false
set_option maxRecDepth 100000
set_option maxHeartbeats 40000000
def U : Tab where
  und := [(3, .int .i64), (82, .slice 3)]
  fld := []
  sz := [(3, 1), (82, 1)]
  ti := [(3, (1, 8, .int .i64 0)), (82, (1, 24, .slice none 0 0))]
  bld := []

theorem hU : U.OK Try.prog where
  und := by
    intro p hp
    simp only [U, List.mem_cons, List.not_mem_nil, or_false] at hp
    rcases hp with rfl | rfl
    · exact Try.underlying3
    · exact Try.underlying82
  fld := by
    intro p hp; cases hp
  sz := by
    intro p hp
    simp only [U, List.mem_cons, List.not_mem_nil, or_false] at hp
    rcases hp with rfl | rfl
    · exact ⟨Try.prog.types[3]!, by kernel_rfl, by kernel_rfl⟩
    · exact ⟨Try.prog.types[82]!, by kernel_rfl, by kernel_rfl⟩
  ti := by
    intro p hp
    simp only [U, List.mem_cons, List.not_mem_nil, or_false] at hp
    rcases hp with rfl | rfl
    · exact ⟨Try.prog.types[3]!, by kernel_rfl, by kernel_rfl, by kernel_rfl, by kernel_rfl⟩
    · exact ⟨Try.prog.types[82]!, by kernel_rfl, by kernel_rfl, by kernel_rfl, by kernel_rfl⟩
  bld := by
    intro p hp; cases hp
  mixed := by kernel_rfl

theorem r_add_spec (A : Option Addr) (c : Nat) (xs : List Int) (B : Option Addr) (d : Nat) (ys : List Int) (n : Int) (l_xs : Nat) (l_ys : Nat) (hx : In .u8 xs) (hy : In .u8 ys) (hlx : xs.length ≤ 40) (hly : ys.length ≤ 40) (hn : 0 ≤ n) (hn2 : n ≤ 36) (hl_xs : xs.length = l_xs) (hl_ys : ys.length = l_ys) :
    CallsS Try.prog 55 [.slice A l_xs c, .slice B l_ys d, .int .i64 n] [vw A (nums .i64 xs), vw B (nums .i64 ys)] (fun r D => ∃ (A2 : Option Addr) (c2 : Nat) (zs : List Int), r = .slice A2 zs.length c2 ∧ D = [row 3 1 (.slice A2 zs.length c2) zs.length (nums .i64 zs)] ∧ (In .u8 zs) ∧ (zs.length = n.toNat) ∧ (leN zs n.toNat = (leN xs n.toNat + leN ys n.toNat) % 256 ^ n.toNat) ∧ (zs.length ≤ c2) ∧ (0 < zs.length → Option.isSome A2 = true)) := by
  subst hl_xs
  subst hl_ys
  refine CallsS.enter hU Try.f55 _ [.tmp 6] 45 Try.func55 rfl (by decide) rfl rfl (by kernel_rfl) fun w0 W => ?_
  refine RunC.know (p := 0 < xs.length → Option.isSome A = true) (fun _ _ w hs => vw_some hs 0 rfl (by simp [nums_length])) (fun hA1 => ?_)
  refine RunC.know (p := 0 < ys.length → Option.isSome B = true) (fun _ _ w hs => vw_some hs 1 rfl (by simp [nums_length])) (fun hA2 => ?_)
  refine RunC.seq ?_
  refine RunC.region ?_
  refine RunR.sil hU [] 1 1 [0, 1, 2, 6] [(0, .slice A xs.length c), (1, .slice B ys.length d), (2, .int .i64 n), (6, .slice none 0 0)] ((True) ∧ True) rfl (by kernel_rfl) ⟨trivial, trivial⟩ ?_
  refine RunR.done (by kernel_rfl) ?_
  refine kseq_n ?_
  refine RunC.seq ?_
  refine RunC.region ?_
  refine RunR.sil hU [] 1 1 [0, 1, 2, 6, 10] [(0, .slice A xs.length c), (1, .slice B ys.length d), (2, .int .i64 n), (6, .slice none 0 0), (10, .int .i64 n)] ((True) ∧ True) rfl (by kernel_rfl) ⟨trivial, trivial⟩ ?_
  refine RunR.step (dst := some 11) (op := .makeSlice 82 (.tmp 10) (.tmp 10)) (by kernel_rfl) (Step.make_nums hU 3 8 .i64 .i64 .i64 (n) rfl rfl (by kernel_rfl) (by kernel_rfl) (by omega) (by omega) (by kernel_rfl) (fun b3 => ?_))
  have hl4 : (List.replicate ((n).toNat) (0 : Int)).length = (n).toNat := List.length_replicate
  refine RunR.sil hU [] 1 3 [0, 1, 2, 6, 7] [(0, .slice A xs.length c), (1, .slice B ys.length d), (2, .int .i64 n), (6, .slice none 0 0), (7, .slice (some ⟨b3, 0, none⟩) ((n).toNat) ((n).toNat))] ((True) ∧ True) rfl (by kernel_rfl) ⟨trivial, trivial⟩ ?_
  refine RunR.done (by kernel_rfl) ?_
  refine kseq_n ?_
  refine RunC.seq ?_
  refine RunC.region ?_
  refine RunR.sil hU [] 1 1 [0, 1, 2, 6, 7, 8] [(0, .slice A xs.length c), (1, .slice B ys.length d), (2, .int .i64 n), (6, .slice none 0 0), (7, .slice (some ⟨b3, 0, none⟩) ((n).toNat) ((n).toNat)), (8, .int .i64 0)] ((True) ∧ True) rfl (by kernel_rfl) ⟨trivial, trivial⟩ ?_
  refine RunR.done (by kernel_rfl) ?_
  refine kseq_n ?_
  refine RunC.seq ?_
  refine RunC.seq ?_
  refine RunC.region ?_
  refine RunR.sil hU [] 1 1 [0, 1, 2, 6, 7, 8, 9] [(0, .slice A xs.length c), (1, .slice B ys.length d), (2, .int .i64 n), (6, .slice none 0 0), (7, .slice (some ⟨b3, 0, none⟩) ((n).toNat) ((n).toNat)), (8, .int .i64 0), (9, .int .i64 0)] ((True) ∧ True) rfl (by kernel_rfl) ⟨trivial, trivial⟩ ?_
  refine RunR.done (by kernel_rfl) ?_
  refine kseq_n ?_
  refine RunC.block ?_
  refine RunC.env [0, 1, 2, 6, 7, 8, 9] [(0, .slice A xs.length c), (1, .slice B ys.length d), (2, .int .i64 n), (6, .slice none 0 0), (7, .slice (some ⟨b3, 0, none⟩) ((n).toNat) ((n).toNat)), (8, .int .i64 0), (9, .int .i64 0)] (by kernel_rfl) ?_
  refine RunC.only [0, 0, 0] [row 3 1 (.slice (some ⟨b3, 0, none⟩) ((n).toNat) ((n).toNat)) ((n).toNat) (nums .i64 (List.replicate ((n).toNat) (0 : Int))), vw A (nums .i64 xs), vw B (nums .i64 ys)] (by kernel_rfl) ?_
  refine RunC.loop (σ := Nat) (fun n_ t_ D_ => ∃ (i : Int) (cy : Int) (os : List Int), (0 ≤ i) ∧ (i ≤ n) ∧ (os = F.mapP (N.df (N.gs xs ys)) (List.replicate n.toNat 0) i.toNat) ∧ (cy = N.cf (N.gs xs ys) i.toNat) ∧ (0 ≤ cy ∧ cy ≤ 2) ∧ (os.length = n.toNat) ∧ n_ = ((n - i).toNat : Nat) ∧ t_ = [(0, .slice A xs.length c), (1, .slice B ys.length d), (2, .int .i64 n), (6, .slice none 0 0), (7, .slice (some ⟨b3, 0, none⟩) ((n).toNat) ((n).toNat)), (8, .int .i64 cy), (9, .int .i64 i)] ∧ D_ = [row 3 1 (.slice (some ⟨b3, 0, none⟩) ((n).toNat) ((n).toNat)) ((n).toNat) (nums .i64 os), vw A (nums .i64 xs), vw B (nums .i64 ys)]) id _ ⟨0, 0, (List.replicate ((n).toNat) (0 : Int)), (by first | assumption | omega | (simp only [List.length_append, List.length_cons, List.length_nil, List.length_set, List.length_replicate, List.length_take, List.length_drop]; omega) | (simp only [fits] at *; omega) | (simp only [List.length_append, List.length_cons, List.length_nil, List.length_set, List.length_replicate, List.length_take, List.length_drop] at *; omega) | (simp; done) | decide), (by first | assumption | omega | (simp only [List.length_append, List.length_cons, List.length_nil, List.length_set, List.length_replicate, List.length_take, List.length_drop]; omega) | (simp only [fits] at *; omega) | (simp only [List.length_append, List.length_cons, List.length_nil, List.length_set, List.length_replicate, List.length_take, List.length_drop] at *; omega) | (simp; done) | decide), (by rfl), (by rfl), (by decide), (by simp), rfl, rfl, rfl⟩ ?_
  rintro n_ _ _ ⟨i, cy, os, hi, hin, ho, hc, hcb, hol, rfl, rfl, rfl⟩
  refine RunC.seq ?_
  refine RunC.seq ?_
  refine RunC.region ?_
  refine RunR.sil hU [] 3 3 [0, 1, 2, 6, 7, 8, 9, 14] [(0, .slice A xs.length c), (1, .slice B ys.length d), (2, .int .i64 n), (6, .slice none 0 0), (7, .slice (some ⟨b3, 0, none⟩) ((n).toNat) ((n).toNat)), (8, .int .i64 cy), (9, .int .i64 i), (14, .bool (decide (i < n)))] ((True) ∧ (True) ∧ (True) ∧ True) rfl (by kernel_rfl) ⟨trivial, trivial, trivial, trivial⟩ ?_
  refine RunR.done (by kernel_rfl) ?_
  refine kseq_n ?_
  refine RunC.condp (i < n) (by kernel_rfl) (fun h5 => ?_) (fun h5 => ?_)
  · skip
    refine RunC.skip ?_
    refine kseq_n ?_
    refine RunC.seq ?_
    refine RunC.block ?_
    refine RunC.seq ?_
    refine RunC.seq ?_
    refine RunC.region ?_
    refine RunR.sil hU [] 4 4 [0, 1, 2, 6, 7, 8, 9, 20] [(0, .slice A xs.length c), (1, .slice B ys.length d), (2, .int .i64 n), (6, .slice none 0 0), (7, .slice (some ⟨b3, 0, none⟩) ((n).toNat) ((n).toNat)), (8, .int .i64 cy), (9, .int .i64 i), (20, .bool (decide (i < ((xs.length : Nat) : Int))))] ((True) ∧ (True) ∧ (True) ∧ (True) ∧ True) rfl (by kernel_rfl) ⟨trivial, trivial, trivial, trivial, trivial⟩ ?_
    refine RunR.done (by kernel_rfl) ?_
    refine kseq_n ?_
    refine RunC.condp (i < ((xs.length : Nat) : Int)) (by kernel_rfl) (fun h6 => ?_) (fun h6 => ?_)
    · skip
      refine RunC.region ?_
      refine RunR.sil hU [] 4 4 [0, 1, 2, 6, 7, 8, 9, 21, 24] [(0, .slice A xs.length c), (1, .slice B ys.length d), (2, .int .i64 n), (6, .slice none 0 0), (7, .slice (some ⟨b3, 0, none⟩) ((n).toNat) ((n).toNat)), (8, .int .i64 cy), (9, .int .i64 i), (21, .int .i64 cy), (24, .pointer (elemAt A i 1))] ((True) ∧ (True) ∧ (True) ∧ ((0 ≤ i ∧ i < ((xs.length : Nat) : Int)) ∧ Option.isSome A = true) ∧ True) rfl (by kernel_rfl) ⟨trivial, trivial, trivial, ⟨by omega, hA1 (by omega)⟩, trivial⟩ ?_
      refine RunR.step (dst := some 25) (op := .load 3 (.tmp 24)) (by kernel_rfl) (Step.load_num hU 1 (vw A (nums .i64 xs)) A i .i64 xs rfl (by kernel_rfl) (by kernel_rfl) (tells_vw _ _) (by kernel_rfl) (by omega) ?_)
      have hb7 : 0 ≤ xs.getD ((i).toNat) 0 ∧ xs.getD ((i).toNat) 0 < 256 := hx.at_ _
      refine RunR.sil hU [5] 2 7 [0, 1, 2, 6, 7, 8, 9] [(0, .slice A xs.length c), (1, .slice B ys.length d), (2, .int .i64 n), (6, .slice none 0 0), (7, .slice (some ⟨b3, 0, none⟩) ((n).toNat) ((n).toNat)), (8, .int .i64 (cy + (xs.getD (i).toNat 0))), (9, .int .i64 i)] ((-9223372036854775808 ≤ (cy + (xs.getD (i).toNat 0)) ∧ (cy + (xs.getD (i).toNat 0)) < 9223372036854775808) ∧ (True) ∧ True) rfl (by kernel_rfl) ⟨(by omega), trivial, trivial⟩ ?_
      refine RunR.done (by kernel_rfl) ?_
      refine kseq_n ?_
      refine RunC.seq ?_
      refine RunC.seq ?_
      refine RunC.region ?_
      refine RunR.sil hU [] 4 4 [0, 1, 2, 6, 7, 8, 9, 30] [(0, .slice A xs.length c), (1, .slice B ys.length d), (2, .int .i64 n), (6, .slice none 0 0), (7, .slice (some ⟨b3, 0, none⟩) ((n).toNat) ((n).toNat)), (8, .int .i64 (cy + (xs.getD (i).toNat 0))), (9, .int .i64 i), (30, .bool (decide (i < ((ys.length : Nat) : Int))))] ((True) ∧ (True) ∧ (True) ∧ (True) ∧ True) rfl (by kernel_rfl) ⟨trivial, trivial, trivial, trivial, trivial⟩ ?_
      refine RunR.done (by kernel_rfl) ?_
      refine kseq_n ?_
      refine RunC.condp (i < ((ys.length : Nat) : Int)) (by kernel_rfl) (fun h8 => ?_) (fun h8 => ?_)
      · skip
        refine RunC.region ?_
        refine RunR.sil hU [] 4 4 [0, 1, 2, 6, 7, 8, 9, 31, 34] [(0, .slice A xs.length c), (1, .slice B ys.length d), (2, .int .i64 n), (6, .slice none 0 0), (7, .slice (some ⟨b3, 0, none⟩) ((n).toNat) ((n).toNat)), (8, .int .i64 (cy + (xs.getD (i).toNat 0))), (9, .int .i64 i), (31, .int .i64 (cy + (xs.getD (i).toNat 0))), (34, .pointer (elemAt B i 1))] ((True) ∧ (True) ∧ (True) ∧ ((0 ≤ i ∧ i < ((ys.length : Nat) : Int)) ∧ Option.isSome B = true) ∧ True) rfl (by kernel_rfl) ⟨trivial, trivial, trivial, ⟨by omega, hA2 (by omega)⟩, trivial⟩ ?_
        refine RunR.step (dst := some 35) (op := .load 3 (.tmp 34)) (by kernel_rfl) (Step.load_num hU 2 (vw B (nums .i64 ys)) B i .i64 ys rfl (by kernel_rfl) (by kernel_rfl) (tells_vw _ _) (by kernel_rfl) (by omega) ?_)
        have hb9 : 0 ≤ ys.getD ((i).toNat) 0 ∧ ys.getD ((i).toNat) 0 < 256 := hy.at_ _
        refine RunR.sil hU [5] 2 7 [0, 1, 2, 6, 7, 8, 9] [(0, .slice A xs.length c), (1, .slice B ys.length d), (2, .int .i64 n), (6, .slice none 0 0), (7, .slice (some ⟨b3, 0, none⟩) ((n).toNat) ((n).toNat)), (8, .int .i64 ((cy + (xs.getD (i).toNat 0)) + (ys.getD (i).toNat 0))), (9, .int .i64 i)] ((-9223372036854775808 ≤ ((cy + (xs.getD (i).toNat 0)) + (ys.getD (i).toNat 0)) ∧ ((cy + (xs.getD (i).toNat 0)) + (ys.getD (i).toNat 0)) < 9223372036854775808) ∧ (True) ∧ True) rfl (by kernel_rfl) ⟨(by omega), trivial, trivial⟩ ?_
        refine RunR.done (by kernel_rfl) ?_
        refine kseq_n ?_
        refine RunC.seq ?_
        refine RunC.region ?_
        refine RunR.sil hU [3] 5 5 [0, 1, 2, 6, 7, 8, 9, 40, 41] [(0, .slice A xs.length c), (1, .slice B ys.length d), (2, .int .i64 n), (6, .slice none 0 0), (7, .slice (some ⟨b3, 0, none⟩) ((n).toNat) ((n).toNat)), (8, .int .i64 ((cy + (xs.getD (i).toNat 0)) + (ys.getD (i).toNat 0))), (9, .int .i64 i), (40, .int .i64 (((cy + (xs.getD (i).toNat 0)) + (ys.getD (i).toNat 0)) % (256 : Int))), (41, .pointer (elemAt (some ⟨b3, 0, none⟩) i 1))] ((True) ∧ (True) ∧ (True) ∧ (0 ≤ ((cy + (xs.getD (i).toNat 0)) + (ys.getD (i).toNat 0)) ∧ 0 < (256 : Int)) ∧ ((0 ≤ i ∧ i < (((n).toNat : Nat) : Int)) ∧ Option.isSome (some ⟨b3, 0, none⟩ : Option Addr) = true) ∧ True) rfl (by kernel_rfl) ⟨trivial, trivial, trivial, (by omega), ⟨by omega, rfl⟩, trivial⟩ ?_
        refine RunR.step (dst := none) (op := .store 3 (.tmp 41) (.tmp 40)) (by kernel_rfl) (Step.store_num hU 0 3 ((n).toNat) ((n).toNat) (some ⟨b3, 0, none⟩) .i64 os i (((cy + (xs.getD (i).toNat 0)) + (ys.getD (i).toNat 0)) % (256 : Int)) (by kernel_rfl) (by kernel_rfl) (by kernel_rfl) rfl (by omega) ?_)
        have hl10 : (os.set (i).toNat (((cy + (xs.getD (i).toNat 0)) + (ys.getD (i).toNat 0)) % (256 : Int))).length = os.length := List.length_set
        refine RunR.done (by kernel_rfl) ?_
        refine kseq_n ?_
        refine RunC.region ?_
        refine RunR.sil hU [1] 3 3 [0, 1, 2, 6, 7, 8, 9] [(0, .slice A xs.length c), (1, .slice B ys.length d), (2, .int .i64 n), (6, .slice none 0 0), (7, .slice (some ⟨b3, 0, none⟩) ((n).toNat) ((n).toNat)), (8, .int .i64 (((cy + (xs.getD (i).toNat 0)) + (ys.getD (i).toNat 0)) / (256 : Int))), (9, .int .i64 i)] ((True) ∧ (0 ≤ ((cy + (xs.getD (i).toNat 0)) + (ys.getD (i).toNat 0)) ∧ 0 < (256 : Int) ∧ -9223372036854775808 ≤ (((cy + (xs.getD (i).toNat 0)) + (ys.getD (i).toNat 0)) / (256 : Int)) ∧ (((cy + (xs.getD (i).toNat 0)) + (ys.getD (i).toNat 0)) / (256 : Int)) < 9223372036854775808) ∧ (True) ∧ True) rfl (by kernel_rfl) ⟨trivial, (by omega), trivial, trivial⟩ ?_
        refine RunR.done (by kernel_rfl) ?_
        refine kblock_n ?_
        refine kseq_n ?_
        refine RunC.region ?_
        refine RunR.sil hU [1] 3 3 [0, 1, 2, 6, 7, 8, 9] [(0, .slice A xs.length c), (1, .slice B ys.length d), (2, .int .i64 n), (6, .slice none 0 0), (7, .slice (some ⟨b3, 0, none⟩) ((n).toNat) ((n).toNat)), (8, .int .i64 (((cy + (xs.getD (i).toNat 0)) + (ys.getD (i).toNat 0)) / (256 : Int))), (9, .int .i64 (i + 1))] ((True) ∧ (-9223372036854775808 ≤ (i + 1) ∧ (i + 1) < 9223372036854775808) ∧ (True) ∧ True) rfl (by kernel_rfl) ⟨trivial, (by omega), trivial, trivial⟩ ?_
        refine RunR.done (by kernel_rfl) ?_
        refine kloop_n _ [0, 1, 2, 6, 7, 8, 9] [0, 0, 0] [(0, .slice A xs.length c), (1, .slice B ys.length d), (2, .int .i64 n), (6, .slice none 0 0), (7, .slice (some ⟨b3, 0, none⟩) ((n).toNat) ((n).toNat)), (8, .int .i64 (((cy + (xs.getD (i).toNat 0)) + (ys.getD (i).toNat 0)) / (256 : Int))), (9, .int .i64 (i + 1))] [row 3 1 (.slice (some ⟨b3, 0, none⟩) ((n).toNat) ((n).toNat)) ((n).toNat) (nums .i64 (os.set (i).toNat (((cy + (xs.getD (i).toNat 0)) + (ys.getD (i).toNat 0)) % (256 : Int)))), vw A (nums .i64 xs), vw B (nums .i64 ys)] (by kernel_rfl) (by kernel_rfl) ?_ ⟨(i + 1), (((cy + (xs.getD (i).toNat 0)) + (ys.getD (i).toNat 0)) / (256 : Int)), (os.set (i).toNat (((cy + (xs.getD (i).toNat 0)) + (ys.getD (i).toNat 0)) % (256 : Int))), (by first | assumption | omega | (simp only [List.length_append, List.length_cons, List.length_nil, List.length_set, List.length_replicate, List.length_take, List.length_drop]; omega) | (simp only [fits] at *; omega) | (simp only [List.length_append, List.length_cons, List.length_nil, List.length_set, List.length_replicate, List.length_take, List.length_drop] at *; omega) | (simp; done) | decide), (by first | assumption | omega | (simp only [List.length_append, List.length_cons, List.length_nil, List.length_set, List.length_replicate, List.length_take, List.length_drop]; omega) | (simp only [fits] at *; omega) | (simp only [List.length_append, List.length_cons, List.length_nil, List.length_set, List.length_replicate, List.length_take, List.length_drop] at *; omega) | (simp; done) | decide), (by rw [show (i + 1).toNat = i.toNat + 1 by omega]; exact (add_step ho hc (by omega) (by rcases getD_out xs i.toNat with h1 | h1 <;> rcases getD_out ys i.toNat with h2 | h2 <;> omega)).1), (by rw [show (i + 1).toNat = i.toNat + 1 by omega]; exact (add_step ho hc (by omega) (by rcases getD_out xs i.toNat with h1 | h1 <;> rcases getD_out ys i.toNat with h2 | h2 <;> omega)).2), (by first | assumption | omega | (simp only [List.length_append, List.length_cons, List.length_nil, List.length_set, List.length_replicate, List.length_take, List.length_drop]; omega) | (simp only [fits] at *; omega) | (simp only [List.length_append, List.length_cons, List.length_nil, List.length_set, List.length_replicate, List.length_take, List.length_drop] at *; omega) | (simp; done) | decide), (by rw [List.length_set]; exact hol), rfl, (by first | rfl | simp only [List.length_set]), (by first | rfl | simp only [List.length_set])⟩
        show ((n - (i + 1)).toNat : Nat) < ((n - i).toNat : Nat)
        omega
      · skip
        refine RunC.skip ?_
        refine kseq_n ?_
        refine RunC.seq ?_
        refine RunC.region ?_
        refine RunR.sil hU [3] 5 5 [0, 1, 2, 6, 7, 8, 9, 40, 41] [(0, .slice A xs.length c), (1, .slice B ys.length d), (2, .int .i64 n), (6, .slice none 0 0), (7, .slice (some ⟨b3, 0, none⟩) ((n).toNat) ((n).toNat)), (8, .int .i64 (cy + (xs.getD (i).toNat 0))), (9, .int .i64 i), (40, .int .i64 ((cy + (xs.getD (i).toNat 0)) % (256 : Int))), (41, .pointer (elemAt (some ⟨b3, 0, none⟩) i 1))] ((True) ∧ (True) ∧ (True) ∧ (0 ≤ (cy + (xs.getD (i).toNat 0)) ∧ 0 < (256 : Int)) ∧ ((0 ≤ i ∧ i < (((n).toNat : Nat) : Int)) ∧ Option.isSome (some ⟨b3, 0, none⟩ : Option Addr) = true) ∧ True) rfl (by kernel_rfl) ⟨trivial, trivial, trivial, (by omega), ⟨by omega, rfl⟩, trivial⟩ ?_
        refine RunR.step (dst := none) (op := .store 3 (.tmp 41) (.tmp 40)) (by kernel_rfl) (Step.store_num hU 0 3 ((n).toNat) ((n).toNat) (some ⟨b3, 0, none⟩) .i64 os i ((cy + (xs.getD (i).toNat 0)) % (256 : Int)) (by kernel_rfl) (by kernel_rfl) (by kernel_rfl) rfl (by omega) ?_)
        have hl11 : (os.set (i).toNat ((cy + (xs.getD (i).toNat 0)) % (256 : Int))).length = os.length := List.length_set
        refine RunR.done (by kernel_rfl) ?_
        refine kseq_n ?_
        refine RunC.region ?_
        refine RunR.sil hU [1] 3 3 [0, 1, 2, 6, 7, 8, 9] [(0, .slice A xs.length c), (1, .slice B ys.length d), (2, .int .i64 n), (6, .slice none 0 0), (7, .slice (some ⟨b3, 0, none⟩) ((n).toNat) ((n).toNat)), (8, .int .i64 ((cy + (xs.getD (i).toNat 0)) / (256 : Int))), (9, .int .i64 i)] ((True) ∧ (0 ≤ (cy + (xs.getD (i).toNat 0)) ∧ 0 < (256 : Int) ∧ -9223372036854775808 ≤ ((cy + (xs.getD (i).toNat 0)) / (256 : Int)) ∧ ((cy + (xs.getD (i).toNat 0)) / (256 : Int)) < 9223372036854775808) ∧ (True) ∧ True) rfl (by kernel_rfl) ⟨trivial, (by omega), trivial, trivial⟩ ?_
        refine RunR.done (by kernel_rfl) ?_
        refine kblock_n ?_
        refine kseq_n ?_
        refine RunC.region ?_
        refine RunR.sil hU [1] 3 3 [0, 1, 2, 6, 7, 8, 9] [(0, .slice A xs.length c), (1, .slice B ys.length d), (2, .int .i64 n), (6, .slice none 0 0), (7, .slice (some ⟨b3, 0, none⟩) ((n).toNat) ((n).toNat)), (8, .int .i64 ((cy + (xs.getD (i).toNat 0)) / (256 : Int))), (9, .int .i64 (i + 1))] ((True) ∧ (-9223372036854775808 ≤ (i + 1) ∧ (i + 1) < 9223372036854775808) ∧ (True) ∧ True) rfl (by kernel_rfl) ⟨trivial, (by omega), trivial, trivial⟩ ?_
        refine RunR.done (by kernel_rfl) ?_
        refine kloop_n _ [0, 1, 2, 6, 7, 8, 9] [0, 0, 0] [(0, .slice A xs.length c), (1, .slice B ys.length d), (2, .int .i64 n), (6, .slice none 0 0), (7, .slice (some ⟨b3, 0, none⟩) ((n).toNat) ((n).toNat)), (8, .int .i64 ((cy + (xs.getD (i).toNat 0)) / (256 : Int))), (9, .int .i64 (i + 1))] [row 3 1 (.slice (some ⟨b3, 0, none⟩) ((n).toNat) ((n).toNat)) ((n).toNat) (nums .i64 (os.set (i).toNat ((cy + (xs.getD (i).toNat 0)) % (256 : Int)))), vw A (nums .i64 xs), vw B (nums .i64 ys)] (by kernel_rfl) (by kernel_rfl) ?_ ⟨(i + 1), ((cy + (xs.getD (i).toNat 0)) / (256 : Int)), (os.set (i).toNat ((cy + (xs.getD (i).toNat 0)) % (256 : Int))), (by first | assumption | omega | (simp only [List.length_append, List.length_cons, List.length_nil, List.length_set, List.length_replicate, List.length_take, List.length_drop]; omega) | (simp only [fits] at *; omega) | (simp only [List.length_append, List.length_cons, List.length_nil, List.length_set, List.length_replicate, List.length_take, List.length_drop] at *; omega) | (simp; done) | decide), (by first | assumption | omega | (simp only [List.length_append, List.length_cons, List.length_nil, List.length_set, List.length_replicate, List.length_take, List.length_drop]; omega) | (simp only [fits] at *; omega) | (simp only [List.length_append, List.length_cons, List.length_nil, List.length_set, List.length_replicate, List.length_take, List.length_drop] at *; omega) | (simp; done) | decide), (by rw [show (i + 1).toNat = i.toNat + 1 by omega]; exact (add_step ho hc (by omega) (by rcases getD_out xs i.toNat with h1 | h1 <;> rcases getD_out ys i.toNat with h2 | h2 <;> omega)).1), (by rw [show (i + 1).toNat = i.toNat + 1 by omega]; exact (add_step ho hc (by omega) (by rcases getD_out xs i.toNat with h1 | h1 <;> rcases getD_out ys i.toNat with h2 | h2 <;> omega)).2), (by first | assumption | omega | (simp only [List.length_append, List.length_cons, List.length_nil, List.length_set, List.length_replicate, List.length_take, List.length_drop]; omega) | (simp only [fits] at *; omega) | (simp only [List.length_append, List.length_cons, List.length_nil, List.length_set, List.length_replicate, List.length_take, List.length_drop] at *; omega) | (simp; done) | decide), (by rw [List.length_set]; exact hol), rfl, (by first | rfl | simp only [List.length_set]), (by first | rfl | simp only [List.length_set])⟩
        show ((n - (i + 1)).toNat : Nat) < ((n - i).toNat : Nat)
        omega
    · skip
      refine RunC.skip ?_
      refine kseq_n ?_
      refine RunC.seq ?_
      refine RunC.seq ?_
      refine RunC.region ?_
      refine RunR.sil hU [] 4 4 [0, 1, 2, 6, 7, 8, 9, 30] [(0, .slice A xs.length c), (1, .slice B ys.length d), (2, .int .i64 n), (6, .slice none 0 0), (7, .slice (some ⟨b3, 0, none⟩) ((n).toNat) ((n).toNat)), (8, .int .i64 cy), (9, .int .i64 i), (30, .bool (decide (i < ((ys.length : Nat) : Int))))] ((True) ∧ (True) ∧ (True) ∧ (True) ∧ True) rfl (by kernel_rfl) ⟨trivial, trivial, trivial, trivial, trivial⟩ ?_
      refine RunR.done (by kernel_rfl) ?_
      refine kseq_n ?_
      refine RunC.condp (i < ((ys.length : Nat) : Int)) (by kernel_rfl) (fun h12 => ?_) (fun h12 => ?_)
      · skip
        refine RunC.region ?_
        refine RunR.sil hU [] 4 4 [0, 1, 2, 6, 7, 8, 9, 31, 34] [(0, .slice A xs.length c), (1, .slice B ys.length d), (2, .int .i64 n), (6, .slice none 0 0), (7, .slice (some ⟨b3, 0, none⟩) ((n).toNat) ((n).toNat)), (8, .int .i64 cy), (9, .int .i64 i), (31, .int .i64 cy), (34, .pointer (elemAt B i 1))] ((True) ∧ (True) ∧ (True) ∧ ((0 ≤ i ∧ i < ((ys.length : Nat) : Int)) ∧ Option.isSome B = true) ∧ True) rfl (by kernel_rfl) ⟨trivial, trivial, trivial, ⟨by omega, hA2 (by omega)⟩, trivial⟩ ?_
        refine RunR.step (dst := some 35) (op := .load 3 (.tmp 34)) (by kernel_rfl) (Step.load_num hU 2 (vw B (nums .i64 ys)) B i .i64 ys rfl (by kernel_rfl) (by kernel_rfl) (tells_vw _ _) (by kernel_rfl) (by omega) ?_)
        have hb13 : 0 ≤ ys.getD ((i).toNat) 0 ∧ ys.getD ((i).toNat) 0 < 256 := hy.at_ _
        refine RunR.sil hU [5] 2 7 [0, 1, 2, 6, 7, 8, 9] [(0, .slice A xs.length c), (1, .slice B ys.length d), (2, .int .i64 n), (6, .slice none 0 0), (7, .slice (some ⟨b3, 0, none⟩) ((n).toNat) ((n).toNat)), (8, .int .i64 (cy + (ys.getD (i).toNat 0))), (9, .int .i64 i)] ((-9223372036854775808 ≤ (cy + (ys.getD (i).toNat 0)) ∧ (cy + (ys.getD (i).toNat 0)) < 9223372036854775808) ∧ (True) ∧ True) rfl (by kernel_rfl) ⟨(by omega), trivial, trivial⟩ ?_
        refine RunR.done (by kernel_rfl) ?_
        refine kseq_n ?_
        refine RunC.seq ?_
        refine RunC.region ?_
        refine RunR.sil hU [3] 5 5 [0, 1, 2, 6, 7, 8, 9, 40, 41] [(0, .slice A xs.length c), (1, .slice B ys.length d), (2, .int .i64 n), (6, .slice none 0 0), (7, .slice (some ⟨b3, 0, none⟩) ((n).toNat) ((n).toNat)), (8, .int .i64 (cy + (ys.getD (i).toNat 0))), (9, .int .i64 i), (40, .int .i64 ((cy + (ys.getD (i).toNat 0)) % (256 : Int))), (41, .pointer (elemAt (some ⟨b3, 0, none⟩) i 1))] ((True) ∧ (True) ∧ (True) ∧ (0 ≤ (cy + (ys.getD (i).toNat 0)) ∧ 0 < (256 : Int)) ∧ ((0 ≤ i ∧ i < (((n).toNat : Nat) : Int)) ∧ Option.isSome (some ⟨b3, 0, none⟩ : Option Addr) = true) ∧ True) rfl (by kernel_rfl) ⟨trivial, trivial, trivial, (by omega), ⟨by omega, rfl⟩, trivial⟩ ?_
        refine RunR.step (dst := none) (op := .store 3 (.tmp 41) (.tmp 40)) (by kernel_rfl) (Step.store_num hU 0 3 ((n).toNat) ((n).toNat) (some ⟨b3, 0, none⟩) .i64 os i ((cy + (ys.getD (i).toNat 0)) % (256 : Int)) (by kernel_rfl) (by kernel_rfl) (by kernel_rfl) rfl (by omega) ?_)
        have hl14 : (os.set (i).toNat ((cy + (ys.getD (i).toNat 0)) % (256 : Int))).length = os.length := List.length_set
        refine RunR.done (by kernel_rfl) ?_
        refine kseq_n ?_
        refine RunC.region ?_
        refine RunR.sil hU [1] 3 3 [0, 1, 2, 6, 7, 8, 9] [(0, .slice A xs.length c), (1, .slice B ys.length d), (2, .int .i64 n), (6, .slice none 0 0), (7, .slice (some ⟨b3, 0, none⟩) ((n).toNat) ((n).toNat)), (8, .int .i64 ((cy + (ys.getD (i).toNat 0)) / (256 : Int))), (9, .int .i64 i)] ((True) ∧ (0 ≤ (cy + (ys.getD (i).toNat 0)) ∧ 0 < (256 : Int) ∧ -9223372036854775808 ≤ ((cy + (ys.getD (i).toNat 0)) / (256 : Int)) ∧ ((cy + (ys.getD (i).toNat 0)) / (256 : Int)) < 9223372036854775808) ∧ (True) ∧ True) rfl (by kernel_rfl) ⟨trivial, (by omega), trivial, trivial⟩ ?_
        refine RunR.done (by kernel_rfl) ?_
        refine kblock_n ?_
        refine kseq_n ?_
        refine RunC.region ?_
        refine RunR.sil hU [1] 3 3 [0, 1, 2, 6, 7, 8, 9] [(0, .slice A xs.length c), (1, .slice B ys.length d), (2, .int .i64 n), (6, .slice none 0 0), (7, .slice (some ⟨b3, 0, none⟩) ((n).toNat) ((n).toNat)), (8, .int .i64 ((cy + (ys.getD (i).toNat 0)) / (256 : Int))), (9, .int .i64 (i + 1))] ((True) ∧ (-9223372036854775808 ≤ (i + 1) ∧ (i + 1) < 9223372036854775808) ∧ (True) ∧ True) rfl (by kernel_rfl) ⟨trivial, (by omega), trivial, trivial⟩ ?_
        refine RunR.done (by kernel_rfl) ?_
        refine kloop_n _ [0, 1, 2, 6, 7, 8, 9] [0, 0, 0] [(0, .slice A xs.length c), (1, .slice B ys.length d), (2, .int .i64 n), (6, .slice none 0 0), (7, .slice (some ⟨b3, 0, none⟩) ((n).toNat) ((n).toNat)), (8, .int .i64 ((cy + (ys.getD (i).toNat 0)) / (256 : Int))), (9, .int .i64 (i + 1))] [row 3 1 (.slice (some ⟨b3, 0, none⟩) ((n).toNat) ((n).toNat)) ((n).toNat) (nums .i64 (os.set (i).toNat ((cy + (ys.getD (i).toNat 0)) % (256 : Int)))), vw A (nums .i64 xs), vw B (nums .i64 ys)] (by kernel_rfl) (by kernel_rfl) ?_ ⟨(i + 1), ((cy + (ys.getD (i).toNat 0)) / (256 : Int)), (os.set (i).toNat ((cy + (ys.getD (i).toNat 0)) % (256 : Int))), (by first | assumption | omega | (simp only [List.length_append, List.length_cons, List.length_nil, List.length_set, List.length_replicate, List.length_take, List.length_drop]; omega) | (simp only [fits] at *; omega) | (simp only [List.length_append, List.length_cons, List.length_nil, List.length_set, List.length_replicate, List.length_take, List.length_drop] at *; omega) | (simp; done) | decide), (by first | assumption | omega | (simp only [List.length_append, List.length_cons, List.length_nil, List.length_set, List.length_replicate, List.length_take, List.length_drop]; omega) | (simp only [fits] at *; omega) | (simp only [List.length_append, List.length_cons, List.length_nil, List.length_set, List.length_replicate, List.length_take, List.length_drop] at *; omega) | (simp; done) | decide), (by rw [show (i + 1).toNat = i.toNat + 1 by omega]; exact (add_step ho hc (by omega) (by rcases getD_out xs i.toNat with h1 | h1 <;> rcases getD_out ys i.toNat with h2 | h2 <;> omega)).1), (by rw [show (i + 1).toNat = i.toNat + 1 by omega]; exact (add_step ho hc (by omega) (by rcases getD_out xs i.toNat with h1 | h1 <;> rcases getD_out ys i.toNat with h2 | h2 <;> omega)).2), (by first | assumption | omega | (simp only [List.length_append, List.length_cons, List.length_nil, List.length_set, List.length_replicate, List.length_take, List.length_drop]; omega) | (simp only [fits] at *; omega) | (simp only [List.length_append, List.length_cons, List.length_nil, List.length_set, List.length_replicate, List.length_take, List.length_drop] at *; omega) | (simp; done) | decide), (by rw [List.length_set]; exact hol), rfl, (by first | rfl | simp only [List.length_set]), (by first | rfl | simp only [List.length_set])⟩
        show ((n - (i + 1)).toNat : Nat) < ((n - i).toNat : Nat)
        omega
      · skip
        refine RunC.skip ?_
        refine kseq_n ?_
        refine RunC.seq ?_
        refine RunC.region ?_
        refine RunR.sil hU [3] 5 5 [0, 1, 2, 6, 7, 8, 9, 40, 41] [(0, .slice A xs.length c), (1, .slice B ys.length d), (2, .int .i64 n), (6, .slice none 0 0), (7, .slice (some ⟨b3, 0, none⟩) ((n).toNat) ((n).toNat)), (8, .int .i64 cy), (9, .int .i64 i), (40, .int .i64 (cy % (256 : Int))), (41, .pointer (elemAt (some ⟨b3, 0, none⟩) i 1))] ((True) ∧ (True) ∧ (True) ∧ (0 ≤ cy ∧ 0 < (256 : Int)) ∧ ((0 ≤ i ∧ i < (((n).toNat : Nat) : Int)) ∧ Option.isSome (some ⟨b3, 0, none⟩ : Option Addr) = true) ∧ True) rfl (by kernel_rfl) ⟨trivial, trivial, trivial, (by omega), ⟨by omega, rfl⟩, trivial⟩ ?_
        refine RunR.step (dst := none) (op := .store 3 (.tmp 41) (.tmp 40)) (by kernel_rfl) (Step.store_num hU 0 3 ((n).toNat) ((n).toNat) (some ⟨b3, 0, none⟩) .i64 os i (cy % (256 : Int)) (by kernel_rfl) (by kernel_rfl) (by kernel_rfl) rfl (by omega) ?_)
        have hl15 : (os.set (i).toNat (cy % (256 : Int))).length = os.length := List.length_set
        refine RunR.done (by kernel_rfl) ?_
        refine kseq_n ?_
        refine RunC.region ?_
        refine RunR.sil hU [1] 3 3 [0, 1, 2, 6, 7, 8, 9] [(0, .slice A xs.length c), (1, .slice B ys.length d), (2, .int .i64 n), (6, .slice none 0 0), (7, .slice (some ⟨b3, 0, none⟩) ((n).toNat) ((n).toNat)), (8, .int .i64 (cy / (256 : Int))), (9, .int .i64 i)] ((True) ∧ (0 ≤ cy ∧ 0 < (256 : Int) ∧ -9223372036854775808 ≤ (cy / (256 : Int)) ∧ (cy / (256 : Int)) < 9223372036854775808) ∧ (True) ∧ True) rfl (by kernel_rfl) ⟨trivial, (by omega), trivial, trivial⟩ ?_
        refine RunR.done (by kernel_rfl) ?_
        refine kblock_n ?_
        refine kseq_n ?_
        refine RunC.region ?_
        refine RunR.sil hU [1] 3 3 [0, 1, 2, 6, 7, 8, 9] [(0, .slice A xs.length c), (1, .slice B ys.length d), (2, .int .i64 n), (6, .slice none 0 0), (7, .slice (some ⟨b3, 0, none⟩) ((n).toNat) ((n).toNat)), (8, .int .i64 (cy / (256 : Int))), (9, .int .i64 (i + 1))] ((True) ∧ (-9223372036854775808 ≤ (i + 1) ∧ (i + 1) < 9223372036854775808) ∧ (True) ∧ True) rfl (by kernel_rfl) ⟨trivial, (by omega), trivial, trivial⟩ ?_
        refine RunR.done (by kernel_rfl) ?_
        refine kloop_n _ [0, 1, 2, 6, 7, 8, 9] [0, 0, 0] [(0, .slice A xs.length c), (1, .slice B ys.length d), (2, .int .i64 n), (6, .slice none 0 0), (7, .slice (some ⟨b3, 0, none⟩) ((n).toNat) ((n).toNat)), (8, .int .i64 (cy / (256 : Int))), (9, .int .i64 (i + 1))] [row 3 1 (.slice (some ⟨b3, 0, none⟩) ((n).toNat) ((n).toNat)) ((n).toNat) (nums .i64 (os.set (i).toNat (cy % (256 : Int)))), vw A (nums .i64 xs), vw B (nums .i64 ys)] (by kernel_rfl) (by kernel_rfl) ?_ ⟨(i + 1), (cy / (256 : Int)), (os.set (i).toNat (cy % (256 : Int))), (by first | assumption | omega | (simp only [List.length_append, List.length_cons, List.length_nil, List.length_set, List.length_replicate, List.length_take, List.length_drop]; omega) | (simp only [fits] at *; omega) | (simp only [List.length_append, List.length_cons, List.length_nil, List.length_set, List.length_replicate, List.length_take, List.length_drop] at *; omega) | (simp; done) | decide), (by first | assumption | omega | (simp only [List.length_append, List.length_cons, List.length_nil, List.length_set, List.length_replicate, List.length_take, List.length_drop]; omega) | (simp only [fits] at *; omega) | (simp only [List.length_append, List.length_cons, List.length_nil, List.length_set, List.length_replicate, List.length_take, List.length_drop] at *; omega) | (simp; done) | decide), (by rw [show (i + 1).toNat = i.toNat + 1 by omega]; exact (add_step ho hc (by omega) (by rcases getD_out xs i.toNat with h1 | h1 <;> rcases getD_out ys i.toNat with h2 | h2 <;> omega)).1), (by rw [show (i + 1).toNat = i.toNat + 1 by omega]; exact (add_step ho hc (by omega) (by rcases getD_out xs i.toNat with h1 | h1 <;> rcases getD_out ys i.toNat with h2 | h2 <;> omega)).2), (by first | assumption | omega | (simp only [List.length_append, List.length_cons, List.length_nil, List.length_set, List.length_replicate, List.length_take, List.length_drop]; omega) | (simp only [fits] at *; omega) | (simp only [List.length_append, List.length_cons, List.length_nil, List.length_set, List.length_replicate, List.length_take, List.length_drop] at *; omega) | (simp; done) | decide), (by rw [List.length_set]; exact hol), rfl, (by first | rfl | simp only [List.length_set]), (by first | rfl | simp only [List.length_set])⟩
        show ((n - (i + 1)).toNat : Nat) < ((n - i).toNat : Nat)
        omega
  · skip
    refine RunC.exit ?_
    refine kseq_e ?_
    refine kloop_e ?_
    refine kblock_e ?_
    refine kseq_n ?_
    refine RunC.seq ?_
    refine RunC.region ?_
    refine RunR.sil hU [] 2 2 [6] [(6, .slice (some ⟨b3, 0, none⟩) ((n).toNat) ((n).toNat))] ((True) ∧ (True) ∧ True) rfl (by kernel_rfl) ⟨trivial, trivial, trivial⟩ ?_
    refine RunR.done (by kernel_rfl) ?_
    refine kseq_n ?_
    refine RunC.ret ?_
    refine kret_r [.slice (some ⟨b3, 0, none⟩) ((n).toNat) ((n).toNat)] [0] [row 3 1 (.slice (some ⟨b3, 0, none⟩) ((n).toNat) ((n).toNat)) ((n).toNat) (nums .i64 os)] ⟨rfl, trivial⟩ (by kernel_rfl) rfl ⟨(some ⟨b3, 0, none⟩), ((n).toNat), os, (by first | rfl | (first | (rw [hol]; done) | (rw [hol]; rfl))), (by first | rfl | (first | (rw [hol]; done) | (rw [hol]; rfl))), (by exact (add_end (by rw [ho, show i = n by omega] <;> rfl)).1), (by exact hol), (by exact (add_end (by rw [ho, show i = n by omega] <;> rfl)).2), (by first | assumption | omega), (by first | assumption | (intro h; rfl))⟩
end Go.Proofs.Ytoaoabnhkiijpaa.X6
