/- What these functions compute: a contract for each, walked through its code. -/
import Derived.Test.YtjhinpmnpdgadaaDoorBTPure
import Derived.Test.YtjhinpmnpdgadaaDoorProg
import Derived.Test.YtjhinpmnpdgadaaDoorX1
import Derived.Test.YtjhinpmnpdgadaaDoorX2
import Derived.Test.YtjhinpmnpdgadaaDoorX3
import Derived.Test.YtjhinpmnpdgadaaDoorX4
import Derived.Test.YtjhinpmnpdgadaaDoorX5
import Derived.Test.YtjhinpmnpdgadaaDoorX6
import Derived.Test.YtjhinpmnpdgadaaDoorX7
namespace Go.Proofs.YtjhinpmnpdgadaaDoor.X8
open Go Go.Proofs.YtjhinpmnpdgadaaDoor.SL Go.Proofs.YtjhinpmnpdgadaaDoor.SL.W Go.Proofs.YtjhinpmnpdgadaaDoor.SL.Y Go.Proofs.YtjhinpmnpdgadaaDoor.SL.B Go.Proofs.YtjhinpmnpdgadaaDoor.X1 Go.Proofs.YtjhinpmnpdgadaaDoor.X2 Go.Proofs.YtjhinpmnpdgadaaDoor.X3 Go.Proofs.YtjhinpmnpdgadaaDoor.X4 Go.Proofs.YtjhinpmnpdgadaaDoor.X5 Go.Proofs.YtjhinpmnpdgadaaDoor.X6 Go.Proofs.YtjhinpmnpdgadaaDoor.X7
set_option linter.unusedVariables false
set_option linter.unusedSimpArgs false
set_option maxRecDepth 100000
set_option maxHeartbeats 40000000
def U : Tab where
  und := [(3, .int .i64), (5, .int .u8), (9, .string), (22, .slice 5), (46, .int .u64)]
  fld := []
  sz := [(3, 1), (5, 1), (9, 1), (22, 1), (46, 1)]
  ti := [(3, (1, 8, .int .i64 0)), (5, (1, 1, .int .u8 0)), (9, (1, 16, .string ⟨#[]⟩)), (22, (1, 24, .slice none 0 0)), (46, (1, 8, .int .u64 0))]
  bld := []

theorem hU : U.OK Tryd.prog where
  und := by
    intro p hp
    simp only [U, List.mem_cons, List.not_mem_nil, or_false] at hp
    rcases hp with rfl | rfl | rfl | rfl | rfl
    · exact Tryd.underlying3
    · exact Tryd.underlying5
    · exact Tryd.underlying9
    · exact Tryd.underlying22
    · exact Tryd.underlying46
  fld := by
    intro p hp; cases hp
  sz := by
    intro p hp
    simp only [U, List.mem_cons, List.not_mem_nil, or_false] at hp
    rcases hp with rfl | rfl | rfl | rfl | rfl
    · exact ⟨Tryd.prog.types[3]!, by kernel_rfl, by kernel_rfl⟩
    · exact ⟨Tryd.prog.types[5]!, by kernel_rfl, by kernel_rfl⟩
    · exact ⟨Tryd.prog.types[9]!, by kernel_rfl, by kernel_rfl⟩
    · exact ⟨Tryd.prog.types[22]!, by kernel_rfl, by kernel_rfl⟩
    · exact ⟨Tryd.prog.types[46]!, by kernel_rfl, by kernel_rfl⟩
  ti := by
    intro p hp
    simp only [U, List.mem_cons, List.not_mem_nil, or_false] at hp
    rcases hp with rfl | rfl | rfl | rfl | rfl
    · exact ⟨Tryd.prog.types[3]!, by kernel_rfl, by kernel_rfl, by kernel_rfl, by kernel_rfl⟩
    · exact ⟨Tryd.prog.types[5]!, by kernel_rfl, by kernel_rfl, by kernel_rfl, by kernel_rfl⟩
    · exact ⟨Tryd.prog.types[9]!, by kernel_rfl, by kernel_rfl, by kernel_rfl, by kernel_rfl⟩
    · exact ⟨Tryd.prog.types[22]!, by kernel_rfl, by kernel_rfl, by kernel_rfl, by kernel_rfl⟩
    · exact ⟨Tryd.prog.types[46]!, by kernel_rfl, by kernel_rfl, by kernel_rfl, by kernel_rfl⟩
  bld := by
    intro p hp; cases hp
  mixed := by kernel_rfl

theorem br_Text_spec (A : Option Addr) (c : Nat) (xs : List Int) (l_xs : Nat) (hIxs : In .u8 xs) (hCxs : xs.length ≤ c) (hBxs : xs.length ≤ 1000000) (hl_xs : xs.length = l_xs) :
    CallsS Tryd.prog 14 [.slice A l_xs c] [vw A (nums .u8 xs)] (fun r D => r = .string (strOfNums (enc xs)) ∧ D = []) := by
  subst hl_xs
  refine CallsS.enter hU Tryd.f14 _ [.tmp 2] 53 Tryd.func14 rfl (by decide) rfl rfl (by kernel_rfl) fun w0 W => ?_
  refine RunC.know (p := 0 < xs.length → Option.isSome A = true) (fun _ _ w hs => vw_some hs 0 rfl (by first | (simp [nums_length]; done) | exact dosV_len _ | exact bls_len _ | exact chV_len _)) (fun hA1 => ?_)
  refine RunC.seq ?_
  refine RunC.region ?_
  refine RunR.sil hU [] 1 1 [0, 2] [(0, .slice A xs.length c), (2, .string ⟨#[]⟩)] ((True) ∧ True) rfl (by kernel_rfl) ⟨trivial, trivial⟩ ?_
  refine RunR.done (by kernel_rfl) ?_
  refine kseq_n ?_
  refine RunC.seq ?_
  refine RunC.region ?_
  refine RunR.sil hU [] 1 1 [0, 2, 3] [(0, .slice A xs.length c), (2, .string ⟨#[]⟩), (3, .string ⟨#[]⟩)] ((True) ∧ True) rfl (by kernel_rfl) ⟨trivial, trivial⟩ ?_
  refine RunR.done (by kernel_rfl) ?_
  refine kseq_n ?_
  refine RunC.seq ?_
  refine RunC.seq ?_
  refine RunC.region ?_
  refine RunR.sil hU [] 1 1 [0, 2, 3, 4] [(0, .slice A xs.length c), (2, .string ⟨#[]⟩), (3, .string ⟨#[]⟩), (4, .int .i64 0)] ((True) ∧ True) rfl (by kernel_rfl) ⟨trivial, trivial⟩ ?_
  refine RunR.done (by kernel_rfl) ?_
  refine kseq_n ?_
  refine RunC.block ?_
  refine RunC.env [0, 2, 3, 4] [(0, .slice A xs.length c), (2, .string ⟨#[]⟩), (3, .string ⟨#[]⟩), (4, .int .i64 0)] (by kernel_rfl) ?_
  refine RunC.only [0] [vw A (nums .u8 xs)] (by kernel_rfl) ?_
  refine RunC.loop (σ := Nat) (fun n_ t_ D_ => ∃ (a : Int) (s : ByteArray), (0 ≤ a) ∧ (a % 6 = 0) ∧ (a ≤ 8 * ((xs.length : Nat) : Int) + 5) ∧ (s = strOfNums (lets xs (a.toNat / 6))) ∧ n_ = ((8 * ((xs.length : Nat) : Int) + 5 - a).toNat : Nat) ∧ t_ = [(0, .slice A xs.length c), (2, .string ⟨#[]⟩), (3, .string s), (4, .int .i64 a)] ∧ D_ = [vw A (nums .u8 xs)]) id _ ⟨0, ⟨#[]⟩, (by first | assumption | omega | (simp only [List.length_append, List.length_cons, List.length_nil, List.length_set, List.length_replicate, List.length_take, List.length_drop]; omega) | (simp only [fits] at *; omega) | (simp only [List.length_append, List.length_cons, List.length_nil, List.length_set, List.length_replicate, List.length_take, List.length_drop] at *; omega) | (simp; done) | decide), (by first | assumption | omega | (simp only [List.length_append, List.length_cons, List.length_nil, List.length_set, List.length_replicate, List.length_take, List.length_drop]; omega) | (simp only [fits] at *; omega) | (simp only [List.length_append, List.length_cons, List.length_nil, List.length_set, List.length_replicate, List.length_take, List.length_drop] at *; omega) | (simp; done) | decide), (by first | assumption | omega | (simp only [List.length_append, List.length_cons, List.length_nil, List.length_set, List.length_replicate, List.length_take, List.length_drop]; omega) | (simp only [fits] at *; omega) | (simp only [List.length_append, List.length_cons, List.length_nil, List.length_set, List.length_replicate, List.length_take, List.length_drop] at *; omega) | (simp; done) | decide), (by rfl), rfl, rfl, rfl⟩ ?_
  rintro n_ _ _ ⟨a, s, ha, ha6, hab, hs, rfl, rfl, rfl⟩
  refine RunC.seq ?_
  refine RunC.seq ?_
  refine RunC.region ?_
  refine RunR.sil hU [3] 5 5 [0, 2, 3, 4, 11] [(0, .slice A xs.length c), (2, .string ⟨#[]⟩), (3, .string s), (4, .int .i64 a), (11, .bool (decide (a < (8 * ((xs.length : Nat) : Int)))))] ((True) ∧ (True) ∧ (True) ∧ (-9223372036854775808 ≤ (8 * ((xs.length : Nat) : Int)) ∧ (8 * ((xs.length : Nat) : Int)) < 9223372036854775808) ∧ (True) ∧ True) rfl (by kernel_rfl) ⟨trivial, trivial, trivial, (by omega), trivial, trivial⟩ ?_
  refine RunR.done (by kernel_rfl) ?_
  refine kseq_n ?_
  refine RunC.condp (a < (8 * ((xs.length : Nat) : Int))) (by kernel_rfl) (fun h2 => ?_) (fun h2 => ?_)
  · skip
    refine RunC.skip ?_
    refine kseq_n ?_
    refine RunC.seq ?_
    refine RunC.block ?_
    refine RunC.seq ?_
    refine RunC.region ?_
    refine RunR.sil hU [] 1 1 [0, 2, 3, 4, 5] [(0, .slice A xs.length c), (2, .string ⟨#[]⟩), (3, .string s), (4, .int .i64 a), (5, .int .i64 0)] ((True) ∧ True) rfl (by kernel_rfl) ⟨trivial, trivial⟩ ?_
    refine RunR.done (by kernel_rfl) ?_
    refine kseq_n ?_
    refine RunC.seq ?_
    refine RunC.seq ?_
    refine RunC.region ?_
    refine RunR.sil hU [] 2 2 [0, 2, 3, 4, 5, 6] [(0, .slice A xs.length c), (2, .string ⟨#[]⟩), (3, .string s), (4, .int .i64 a), (5, .int .i64 0), (6, .int .i64 a)] ((True) ∧ (True) ∧ True) rfl (by kernel_rfl) ⟨trivial, trivial, trivial⟩ ?_
    refine RunR.done (by kernel_rfl) ?_
    refine kseq_n ?_
    refine RunC.block ?_
    refine RunC.env [0, 2, 3, 4, 5, 6] [(0, .slice A xs.length c), (2, .string ⟨#[]⟩), (3, .string s), (4, .int .i64 a), (5, .int .i64 0), (6, .int .i64 a)] (by kernel_rfl) ?_
    refine RunC.only [0] [vw A (nums .u8 xs)] (by kernel_rfl) ?_
    refine RunC.loop (σ := Nat) (fun n_ t_ D_ => ∃ (k : Int) (v : Int), (a ≤ k) ∧ (k ≤ a + 6) ∧ (v = bv xs a.toNat (k - a).toNat) ∧ n_ = ((a + 6 - k).toNat : Nat) ∧ t_ = [(0, .slice A xs.length c), (2, .string ⟨#[]⟩), (3, .string s), (4, .int .i64 a), (5, .int .i64 v), (6, .int .i64 k)] ∧ D_ = [vw A (nums .u8 xs)]) id _ ⟨a, 0, (by first | assumption | omega | (simp only [List.length_append, List.length_cons, List.length_nil, List.length_set, List.length_replicate, List.length_take, List.length_drop]; omega) | (simp only [fits] at *; omega) | (simp only [List.length_append, List.length_cons, List.length_nil, List.length_set, List.length_replicate, List.length_take, List.length_drop] at *; omega) | (simp; done) | decide), (by first | assumption | omega | (simp only [List.length_append, List.length_cons, List.length_nil, List.length_set, List.length_replicate, List.length_take, List.length_drop]; omega) | (simp only [fits] at *; omega) | (simp only [List.length_append, List.length_cons, List.length_nil, List.length_set, List.length_replicate, List.length_take, List.length_drop] at *; omega) | (simp; done) | decide), (by rw [show (a - a).toNat = 0 by omega]; rfl), rfl, rfl, rfl⟩ ?_
    rintro n_ _ _ ⟨k, v, hk, hk6, hv, rfl, rfl, rfl⟩
    have hvb := bv_63 (xs := xs) (p := a.toNat) (n := (k - a).toNat) (by omega)
    rw [← hv] at hvb
    refine RunC.seq ?_
    refine RunC.seq ?_
    refine RunC.region ?_
    refine RunR.sil hU [2] 4 4 [0, 2, 3, 4, 5, 6, 18] [(0, .slice A xs.length c), (2, .string ⟨#[]⟩), (3, .string s), (4, .int .i64 a), (5, .int .i64 v), (6, .int .i64 k), (18, .bool (decide (k < (a + 6))))] ((True) ∧ (True) ∧ (-9223372036854775808 ≤ (a + 6) ∧ (a + 6) < 9223372036854775808) ∧ (True) ∧ True) rfl (by kernel_rfl) ⟨trivial, trivial, (by omega), trivial, trivial⟩ ?_
    refine RunR.done (by kernel_rfl) ?_
    refine kseq_n ?_
    refine RunC.condp (k < (a + 6)) (by kernel_rfl) (fun h3 => ?_) (fun h3 => ?_)
    · skip
      refine RunC.skip ?_
      refine kseq_n ?_
      refine RunC.seq ?_
      refine RunC.block ?_
      refine RunC.seq ?_
      refine RunC.region ?_
      refine RunR.sil hU [1] 3 3 [0, 2, 3, 4, 5, 6] [(0, .slice A xs.length c), (2, .string ⟨#[]⟩), (3, .string s), (4, .int .i64 a), (5, .int .i64 (v * 2)), (6, .int .i64 k)] ((True) ∧ (-9223372036854775808 ≤ (v * 2) ∧ (v * 2) < 9223372036854775808) ∧ (True) ∧ True) rfl (by kernel_rfl) ⟨trivial, (by omega), trivial, trivial⟩ ?_
      refine RunR.done (by kernel_rfl) ?_
      refine kseq_n ?_
      refine RunC.seq ?_
      refine RunC.region ?_
      refine RunR.sil hU [1] 5 5 [0, 2, 3, 4, 5, 6, 27] [(0, .slice A xs.length c), (2, .string ⟨#[]⟩), (3, .string s), (4, .int .i64 a), (5, .int .i64 (v * 2)), (6, .int .i64 k), (27, .bool (decide ((k / (8 : Int)) < ((xs.length : Nat) : Int))))] ((True) ∧ (0 ≤ k ∧ 0 < (8 : Int) ∧ -9223372036854775808 ≤ (k / (8 : Int)) ∧ (k / (8 : Int)) < 9223372036854775808) ∧ (True) ∧ (True) ∧ (True) ∧ True) rfl (by kernel_rfl) ⟨trivial, (by omega), trivial, trivial, trivial, trivial⟩ ?_
      refine RunR.done (by kernel_rfl) ?_
      refine kseq_n ?_
      refine RunC.condp ((k / (8 : Int)) < ((xs.length : Nat) : Int)) (by kernel_rfl) (fun h4 => ?_) (fun h4 => ?_)
      · skip
        refine RunC.region ?_
        refine RunR.sil hU [3] 5 5 [0, 2, 3, 4, 5, 6, 28, 32] [(0, .slice A xs.length c), (2, .string ⟨#[]⟩), (3, .string s), (4, .int .i64 a), (5, .int .i64 (v * 2)), (6, .int .i64 k), (28, .int .i64 (v * 2)), (32, .pointer (elemAt A (k / (8 : Int)) 1))] ((True) ∧ (True) ∧ (True) ∧ (0 ≤ k ∧ 0 < (8 : Int) ∧ -9223372036854775808 ≤ (k / (8 : Int)) ∧ (k / (8 : Int)) < 9223372036854775808) ∧ ((0 ≤ (k / (8 : Int)) ∧ (k / (8 : Int)) < ((xs.length : Nat) : Int)) ∧ Option.isSome A = true) ∧ True) rfl (by kernel_rfl) ⟨trivial, trivial, trivial, (by omega), ⟨by omega, hA1 (by omega)⟩, trivial⟩ ?_
        refine RunR.step (dst := some 33) (op := .load 5 (.tmp 32)) (by kernel_rfl) (Step.load_num hU 0 (vw A (nums .u8 xs)) A (k / (8 : Int)) .u8 xs rfl (by kernel_rfl) (by kernel_rfl) (tells_vw _ _) (by kernel_rfl) (by omega) ?_)
        have hb5 : 0 ≤ xs.getD ((k / (8 : Int)).toNat) 0 ∧ xs.getD ((k / (8 : Int)).toNat) 0 < 256 := hIxs.at_ _
        have hm6 : 0 ≤ (xs.getD (k / (8 : Int)).toNat 0) → 0 ≤ (xs.getD (k / (8 : Int)).toNat 0) / 2 ^ (min (7 - (k % (8 : Int))).toNat 64) ∧ (xs.getD (k / (8 : Int)).toNat 0) / 2 ^ (min (7 - (k % (8 : Int))).toNat 64) ≤ (xs.getD (k / (8 : Int)).toNat 0) := fun h => ⟨Int.ediv_nonneg h (Int.le_of_lt (Int.pow_pos (by decide))), Int.ediv_le_self _ h⟩
        refine RunR.sil hU [6, 8, 9, 10, 11, 12, 13] 9 15 [0, 2, 3, 4, 5, 6] [(0, .slice A xs.length c), (2, .string ⟨#[]⟩), (3, .string s), (4, .int .i64 a), (5, .int .i64 ((v * 2) + (((xs.getD (k / (8 : Int)).toNat 0) / 2 ^ (min (7 - (k % (8 : Int))).toNat 64)) % (2 : Int)))), (6, .int .i64 k)] ((-9223372036854775808 ≤ (xs.getD (k / (8 : Int)).toNat 0) ∧ (xs.getD (k / (8 : Int)).toNat 0) < 9223372036854775808) ∧ (True) ∧ (0 ≤ k ∧ 0 < (8 : Int)) ∧ (-9223372036854775808 ≤ (7 - (k % (8 : Int))) ∧ (7 - (k % (8 : Int))) < 9223372036854775808) ∧ (0 ≤ (7 - (k % (8 : Int))) ∧ (7 - (k % (8 : Int))) < 18446744073709551616) ∧ (0 ≤ (7 - (k % (8 : Int)))) ∧ (0 ≤ ((xs.getD (k / (8 : Int)).toNat 0) / 2 ^ (min (7 - (k % (8 : Int))).toNat 64)) ∧ 0 < (2 : Int)) ∧ (-9223372036854775808 ≤ ((v * 2) + (((xs.getD (k / (8 : Int)).toNat 0) / 2 ^ (min (7 - (k % (8 : Int))).toNat 64)) % (2 : Int))) ∧ ((v * 2) + (((xs.getD (k / (8 : Int)).toNat 0) / 2 ^ (min (7 - (k % (8 : Int))).toNat 64)) % (2 : Int))) < 9223372036854775808) ∧ (True) ∧ True) rfl (by kernel_rfl) ⟨(by omega), trivial, (by omega), (by omega), (by omega), (by omega), (by omega), (by omega), trivial, trivial⟩ ?_
        refine RunR.done (by kernel_rfl) ?_
        refine kblock_n ?_
        refine kseq_n ?_
        refine RunC.region ?_
        refine RunR.sil hU [1] 3 3 [0, 2, 3, 4, 5, 6] [(0, .slice A xs.length c), (2, .string ⟨#[]⟩), (3, .string s), (4, .int .i64 a), (5, .int .i64 ((v * 2) + (((xs.getD (k / (8 : Int)).toNat 0) / 2 ^ (min (7 - (k % (8 : Int))).toNat 64)) % (2 : Int)))), (6, .int .i64 (k + 1))] ((True) ∧ (-9223372036854775808 ≤ (k + 1) ∧ (k + 1) < 9223372036854775808) ∧ (True) ∧ True) rfl (by kernel_rfl) ⟨trivial, (by omega), trivial, trivial⟩ ?_
        refine RunR.done (by kernel_rfl) ?_
        refine kloop_n _ [0, 2, 3, 4, 5, 6] [0] [(0, .slice A xs.length c), (2, .string ⟨#[]⟩), (3, .string s), (4, .int .i64 a), (5, .int .i64 ((v * 2) + (((xs.getD (k / (8 : Int)).toNat 0) / 2 ^ (min (7 - (k % (8 : Int))).toNat 64)) % (2 : Int)))), (6, .int .i64 (k + 1))] [vw A (nums .u8 xs)] (by kernel_rfl) (by kernel_rfl) ?_ ⟨(k + 1), ((v * 2) + (((xs.getD (k / (8 : Int)).toNat 0) / 2 ^ (min (7 - (k % (8 : Int))).toNat 64)) % (2 : Int))), (by first | assumption | omega | (simp only [List.length_append, List.length_cons, List.length_nil, List.length_set, List.length_replicate, List.length_take, List.length_drop]; omega) | (simp only [fits] at *; omega) | (simp only [List.length_append, List.length_cons, List.length_nil, List.length_set, List.length_replicate, List.length_take, List.length_drop] at *; omega) | (simp; done) | decide), (by first | assumption | omega | (simp only [List.length_append, List.length_cons, List.length_nil, List.length_set, List.length_replicate, List.length_take, List.length_drop]; omega) | (simp only [fits] at *; omega) | (simp only [List.length_append, List.length_cons, List.length_nil, List.length_set, List.length_replicate, List.length_take, List.length_drop] at *; omega) | (simp; done) | decide), (by rw [show (k + 1 - a).toNat = (k - a).toNat + 1 by omega, bv, ← hv]; first | rw [bit_go ha hk] | rw [bit_no ha hk (by assumption), Int.add_zero]), rfl, (by first | rfl | simp only [List.length_set]), (by first | rfl | simp only [List.length_set])⟩
        show ((a + 6 - (k + 1)).toNat : Nat) < ((a + 6 - k).toNat : Nat)
        omega
      · skip
        refine RunC.skip ?_
        refine kblock_n ?_
        refine kseq_n ?_
        refine RunC.region ?_
        refine RunR.sil hU [1] 3 3 [0, 2, 3, 4, 5, 6] [(0, .slice A xs.length c), (2, .string ⟨#[]⟩), (3, .string s), (4, .int .i64 a), (5, .int .i64 (v * 2)), (6, .int .i64 (k + 1))] ((True) ∧ (-9223372036854775808 ≤ (k + 1) ∧ (k + 1) < 9223372036854775808) ∧ (True) ∧ True) rfl (by kernel_rfl) ⟨trivial, (by omega), trivial, trivial⟩ ?_
        refine RunR.done (by kernel_rfl) ?_
        refine kloop_n _ [0, 2, 3, 4, 5, 6] [0] [(0, .slice A xs.length c), (2, .string ⟨#[]⟩), (3, .string s), (4, .int .i64 a), (5, .int .i64 (v * 2)), (6, .int .i64 (k + 1))] [vw A (nums .u8 xs)] (by kernel_rfl) (by kernel_rfl) ?_ ⟨(k + 1), (v * 2), (by first | assumption | omega | (simp only [List.length_append, List.length_cons, List.length_nil, List.length_set, List.length_replicate, List.length_take, List.length_drop]; omega) | (simp only [fits] at *; omega) | (simp only [List.length_append, List.length_cons, List.length_nil, List.length_set, List.length_replicate, List.length_take, List.length_drop] at *; omega) | (simp; done) | decide), (by first | assumption | omega | (simp only [List.length_append, List.length_cons, List.length_nil, List.length_set, List.length_replicate, List.length_take, List.length_drop]; omega) | (simp only [fits] at *; omega) | (simp only [List.length_append, List.length_cons, List.length_nil, List.length_set, List.length_replicate, List.length_take, List.length_drop] at *; omega) | (simp; done) | decide), (by rw [show (k + 1 - a).toNat = (k - a).toNat + 1 by omega, bv, ← hv]; first | rw [bit_go ha hk] | rw [bit_no ha hk (by assumption), Int.add_zero]), rfl, (by first | rfl | simp only [List.length_set]), (by first | rfl | simp only [List.length_set])⟩
        show ((a + 6 - (k + 1)).toNat : Nat) < ((a + 6 - k).toNat : Nat)
        omega
    · skip
      refine RunC.exit ?_
      refine kseq_e ?_
      refine kloop_e ?_
      refine kblock_e ?_
      refine kseq_n ?_
      refine RunC.region ?_
      refine RunR.sil hU [] 2 2 [0, 2, 3, 4, 42, 43] [(0, .slice A xs.length c), (2, .string ⟨#[]⟩), (3, .string s), (4, .int .i64 a), (42, .string s), (43, .int .i64 v)] ((True) ∧ (True) ∧ True) rfl (by kernel_rfl) ⟨trivial, trivial, trivial⟩ ?_
      refine RunR.step (dst := some 44) (op := .call { callee := .value (.func 28), args := #[.tmp 43], argTypes := #[3] }) (by kernel_rfl) (Step.call 28 [.int .i64 v] (by kernel_rfl) (by kernel_rfl) [] [] [vw A (nums .u8 xs)] (br_letter_spec v (by first | assumption | omega | (simp only [List.length_append, List.length_cons, List.length_nil, List.length_set, List.length_replicate, List.length_take, List.length_drop]; omega) | (simp only [fits] at *; omega) | (simp only [List.length_append, List.length_cons, List.length_nil, List.length_set, List.length_replicate, List.length_take, List.length_drop] at *; omega) | (simp; done) | decide)) [] (by kernel_rfl) (Lend.nil _) ?_)
      rintro _ _ ⟨rfl, rfl⟩
      refine RunR.sil hU [] 2 5 [0, 2, 3, 4] [(0, .slice A xs.length c), (2, .string ⟨#[]⟩), (3, .string (s ++ (strOfNums [ltr v]))), (4, .int .i64 a)] (((s : ByteArray).size + (strOfNums [ltr v] : ByteArray).size ≤ 9223372036854775807) ∧ (True) ∧ True) rfl (by kernel_rfl) ⟨(by have qn := nl_le xs.length; have q1 : (⟨#[61]⟩ : ByteArray).size = 1 := rfl; first | (rw [hs, strOfNums_size, strOfNums_size, lets_len]; simp only [List.length_cons, List.length_nil]; omega) | omega), trivial, trivial⟩ ?_
      refine RunR.done (by kernel_rfl) ?_
      refine kblock_n ?_
      refine kseq_n ?_
      refine RunC.region ?_
      refine RunR.sil hU [1] 3 3 [0, 2, 3, 4] [(0, .slice A xs.length c), (2, .string ⟨#[]⟩), (3, .string (s ++ (strOfNums [ltr v]))), (4, .int .i64 (a + 6))] ((True) ∧ (-9223372036854775808 ≤ (a + 6) ∧ (a + 6) < 9223372036854775808) ∧ (True) ∧ True) rfl (by kernel_rfl) ⟨trivial, (by omega), trivial, trivial⟩ ?_
      refine RunR.done (by kernel_rfl) ?_
      refine kloop_n _ [0, 2, 3, 4] [0] [(0, .slice A xs.length c), (2, .string ⟨#[]⟩), (3, .string (s ++ (strOfNums [ltr v]))), (4, .int .i64 (a + 6))] [vw A (nums .u8 xs)] (by kernel_rfl) (by kernel_rfl) ?_ ⟨(a + 6), (s ++ (strOfNums [ltr v])), (by first | assumption | omega | (simp only [List.length_append, List.length_cons, List.length_nil, List.length_set, List.length_replicate, List.length_take, List.length_drop]; omega) | (simp only [fits] at *; omega) | (simp only [List.length_append, List.length_cons, List.length_nil, List.length_set, List.length_replicate, List.length_take, List.length_drop] at *; omega) | (simp; done) | decide), (by first | assumption | omega | (simp only [List.length_append, List.length_cons, List.length_nil, List.length_set, List.length_replicate, List.length_take, List.length_drop]; omega) | (simp only [fits] at *; omega) | (simp only [List.length_append, List.length_cons, List.length_nil, List.length_set, List.length_replicate, List.length_take, List.length_drop] at *; omega) | (simp; done) | decide), (by first | assumption | omega | (simp only [List.length_append, List.length_cons, List.length_nil, List.length_set, List.length_replicate, List.length_take, List.length_drop]; omega) | (simp only [fits] at *; omega) | (simp only [List.length_append, List.length_cons, List.length_nil, List.length_set, List.length_replicate, List.length_take, List.length_drop] at *; omega) | (simp; done) | decide), (by rw [show (a + 6).toNat / 6 = a.toNat / 6 + 1 by omega, lets, strOfNums_app, ← hs]; rw [hv, show (k - a).toNat = 6 by omega, show 6 * (a.toNat / 6) = a.toNat by omega]), rfl, (by first | rfl | simp only [List.length_set]), (by first | rfl | simp only [List.length_set])⟩
      show ((8 * ((xs.length : Nat) : Int) + 5 - (a + 6)).toNat : Nat) < ((8 * ((xs.length : Nat) : Int) + 5 - a).toNat : Nat)
      omega
  · skip
    refine RunC.exit ?_
    refine kseq_e ?_
    refine kloop_e ?_
    refine kblock_e ?_
    refine kseq_n ?_
    refine RunC.seq ?_
    refine RunC.block ?_
    refine RunC.env [2, 3] [(2, .string ⟨#[]⟩), (3, .string s)] (by kernel_rfl) ?_
    refine RunC.only [0] [vw A (nums .u8 xs)] (by kernel_rfl) ?_
    refine RunC.loop (σ := Nat) (fun n_ t_ D_ => ∃ (j : Nat) (s : ByteArray), (j ≤ npad xs.length) ∧ (s = strOfNums (lets xs (nl xs.length) ++ List.replicate j 61)) ∧ n_ = (npad xs.length - j : Nat) ∧ t_ = [(2, .string ⟨#[]⟩), (3, .string s)] ∧ D_ = [vw A (nums .u8 xs)]) id _ ⟨0, s, (by exact Nat.zero_le _), (by rw [hs, show a.toNat / 6 = nl xs.length by unfold nl; omega]; simp), rfl, rfl, rfl⟩ ?_
    rintro n_ _ _ ⟨j, s, hj, hs, rfl, rfl, rfl⟩
    have hsz : (s : ByteArray).size = nl xs.length + j := by rw [hs, strOfNums_size, List.length_append, lets_len, List.length_replicate]
    have hnp : npad xs.length = (4 - nl xs.length % 4) % 4 := rfl
    refine RunC.seq ?_
    refine RunC.seq ?_
    refine RunC.region ?_
    refine RunR.sil hU [2] 4 4 [2, 3, 49] [(2, .string ⟨#[]⟩), (3, .string s), (49, .bool (!decide ((((s : ByteArray).size : Int) % (4 : Int)) = 0)))] ((True) ∧ (True) ∧ (0 ≤ ((s : ByteArray).size : Int) ∧ 0 < (4 : Int)) ∧ (True) ∧ True) rfl (by kernel_rfl) ⟨trivial, trivial, (by omega), trivial, trivial⟩ ?_
    refine RunR.done (by kernel_rfl) ?_
    refine kseq_n ?_
    refine RunC.condn ((((s : ByteArray).size : Int) % (4 : Int)) = 0) (by kernel_rfl) (fun h7 => ?_) (fun h7 => ?_)
    · skip
      refine RunC.skip ?_
      refine kseq_n ?_
      refine RunC.block ?_
      refine RunC.region ?_
      refine RunR.sil hU [] 3 3 [2, 3] [(2, .string ⟨#[]⟩), (3, .string (s ++ ⟨#[61]⟩))] ((True) ∧ ((s : ByteArray).size + (⟨#[61]⟩ : ByteArray).size ≤ 9223372036854775807) ∧ (True) ∧ True) rfl (by kernel_rfl) ⟨trivial, (by have qn := nl_le xs.length; have q1 : (⟨#[61]⟩ : ByteArray).size = 1 := rfl; first | (rw [hs, strOfNums_size, strOfNums_size, lets_len]; simp only [List.length_cons, List.length_nil]; omega) | omega), trivial, trivial⟩ ?_
      refine RunR.done (by kernel_rfl) ?_
      refine kblock_n ?_
      refine kloop_n _ [2, 3] [0] [(2, .string ⟨#[]⟩), (3, .string (s ++ ⟨#[61]⟩))] [vw A (nums .u8 xs)] (by kernel_rfl) (by kernel_rfl) ?_ ⟨(j + 1), (s ++ ⟨#[61]⟩), (by first | assumption | omega | (simp only [List.length_append, List.length_cons, List.length_nil, List.length_set, List.length_replicate, List.length_take, List.length_drop]; omega) | (simp only [fits] at *; omega) | (simp only [List.length_append, List.length_cons, List.length_nil, List.length_set, List.length_replicate, List.length_take, List.length_drop] at *; omega) | (simp; done) | decide), (by rw [hs, List.replicate_succ', ← List.append_assoc, strOfNums_app _ [61]]; rfl), rfl, (by first | rfl | simp only [List.length_set]), (by first | rfl | simp only [List.length_set])⟩
      show (npad xs.length - (j + 1) : Nat) < (npad xs.length - j : Nat)
      omega
    · skip
      refine RunC.exit ?_
      refine kseq_e ?_
      refine kloop_e ?_
      refine kblock_e ?_
      refine kseq_n ?_
      refine RunC.seq ?_
      refine RunC.region ?_
      refine RunR.sil hU [] 2 2 [2] [(2, .string s)] ((True) ∧ (True) ∧ True) rfl (by kernel_rfl) ⟨trivial, trivial, trivial⟩ ?_
      refine RunR.done (by kernel_rfl) ?_
      refine kseq_n ?_
      refine RunC.ret ?_
      refine kret_r [.string s] [] [] ⟨rfl, trivial⟩ (by kernel_rfl) rfl ⟨(by first | rfl | (rw [hs, enc_lets hIxs, show j = npad xs.length by omega]; rfl)), (by first | rfl | (rw [hs, enc_lets hIxs, show j = npad xs.length by omega]; rfl))⟩
end Go.Proofs.YtjhinpmnpdgadaaDoor.X8
