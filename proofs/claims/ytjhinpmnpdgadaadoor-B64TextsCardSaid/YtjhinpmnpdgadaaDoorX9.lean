/- What these functions compute: a contract for each, walked through its code. -/
import Derived.Test.YtjhinpmnpdgadaaDoorBTPure
import Derived.Test.YtjhinpmnpdgadaaDoorProg
import Derived.Test.YtjhinpmnpdgadaaDoorX1
import Derived.Test.YtjhinpmnpdgadaaDoorX2
import Derived.Test.YtjhinpmnpdgadaaDoorX3
import Derived.Test.YtjhinpmnpdgadaaDoorX4
import Derived.Test.YtjhinpmnpdgadaaDoorX5
import Derived.Test.YtjhinpmnpdgadaaDoorX6
import Derived.Test.YtjhinpmnpdgadaaDoorX7
import Derived.Test.YtjhinpmnpdgadaaDoorX8
namespace Go.Proofs.YtjhinpmnpdgadaaDoor.X9
open Go Go.Proofs.YtjhinpmnpdgadaaDoor.SL Go.Proofs.YtjhinpmnpdgadaaDoor.SL.W Go.Proofs.YtjhinpmnpdgadaaDoor.SL.Y Go.Proofs.YtjhinpmnpdgadaaDoor.SL.B Go.Proofs.YtjhinpmnpdgadaaDoor.X1 Go.Proofs.YtjhinpmnpdgadaaDoor.X2 Go.Proofs.YtjhinpmnpdgadaaDoor.X3 Go.Proofs.YtjhinpmnpdgadaaDoor.X4 Go.Proofs.YtjhinpmnpdgadaaDoor.X5 Go.Proofs.YtjhinpmnpdgadaaDoor.X6 Go.Proofs.YtjhinpmnpdgadaaDoor.X7 Go.Proofs.YtjhinpmnpdgadaaDoor.X8
set_option linter.unusedVariables false
set_option linter.unusedSimpArgs false
set_option maxRecDepth 100000
set_option maxHeartbeats 40000000
def U : Tab where
  und := [(3, .int .i64), (5, .int .u8), (9, .string), (22, .slice 5), (46, .int .u64)]
  fld := []
  sz := [(3, 1), (5, 1), (9, 1), (22, 1), (46, 1)]
  ti := [(3, (1, 8, .int .i64 0)), (5, (1, 1, .int .u8 0)), (9, (1, 16, .string ⟨#[]⟩)), (22, (1, 24, .slice none 0 0)), (46, (1, 8, .int .u64 0))]
  bld := []

theorem hU : U.OK Tryd.prog where
  und := by
    intro p hp
    simp only [U, List.mem_cons, List.not_mem_nil, or_false] at hp
    rcases hp with rfl | rfl | rfl | rfl | rfl
    · exact Tryd.underlying3
    · exact Tryd.underlying5
    · exact Tryd.underlying9
    · exact Tryd.underlying22
    · exact Tryd.underlying46
  fld := by
    intro p hp; cases hp
  sz := by
    intro p hp
    simp only [U, List.mem_cons, List.not_mem_nil, or_false] at hp
    rcases hp with rfl | rfl | rfl | rfl | rfl
    · exact ⟨Tryd.prog.types[3]!, by kernel_rfl, by kernel_rfl⟩
    · exact ⟨Tryd.prog.types[5]!, by kernel_rfl, by kernel_rfl⟩
    · exact ⟨Tryd.prog.types[9]!, by kernel_rfl, by kernel_rfl⟩
    · exact ⟨Tryd.prog.types[22]!, by kernel_rfl, by kernel_rfl⟩
    · exact ⟨Tryd.prog.types[46]!, by kernel_rfl, by kernel_rfl⟩
  ti := by
    intro p hp
    simp only [U, List.mem_cons, List.not_mem_nil, or_false] at hp
    rcases hp with rfl | rfl | rfl | rfl | rfl
    · exact ⟨Tryd.prog.types[3]!, by kernel_rfl, by kernel_rfl, by kernel_rfl, by kernel_rfl⟩
    · exact ⟨Tryd.prog.types[5]!, by kernel_rfl, by kernel_rfl, by kernel_rfl, by kernel_rfl⟩
    · exact ⟨Tryd.prog.types[9]!, by kernel_rfl, by kernel_rfl, by kernel_rfl, by kernel_rfl⟩
    · exact ⟨Tryd.prog.types[22]!, by kernel_rfl, by kernel_rfl, by kernel_rfl, by kernel_rfl⟩
    · exact ⟨Tryd.prog.types[46]!, by kernel_rfl, by kernel_rfl, by kernel_rfl, by kernel_rfl⟩
  bld := by
    intro p hp; cases hp
  mixed := by kernel_rfl

theorem br_Bytes_spec (s : ByteArray) (hn : (s : ByteArray).size ≤ 100000) :
    CallsS Tryd.prog 16 [.string s] [] (fun r D => ∃ (A9 : Option Addr) (c9 : Nat) (zs : List Int) (ok : Bool), r = .tuple #[.slice A9 zs.length c9, .bool ok] ∧ D = [row 5 1 (.slice A9 zs.length c9) zs.length (nums .u8 zs)] ∧ (bytesP (sb s) = if ok = true then some zs else none) ∧ (ok = false → zs = []) ∧ (In .u8 zs) ∧ (zs.length ≤ (s : ByteArray).size) ∧ (zs.length ≤ c9) ∧ (0 < zs.length → Option.isSome A9 = true)) := by
  refine CallsS.enter hU Tryd.f16 _ [.tmp 2, .tmp 3] 66 Tryd.func16 rfl (by decide) rfl rfl (by kernel_rfl) fun w0 W => ?_
  refine RunC.seq ?_
  refine RunC.region ?_
  refine RunR.sil hU [] 2 2 [0, 2, 3] [(0, .string s), (2, .slice none 0 0), (3, .bool false)] ((True) ∧ (True) ∧ True) rfl (by kernel_rfl) ⟨trivial, trivial, trivial⟩ ?_
  refine RunR.done (by kernel_rfl) ?_
  refine kseq_n ?_
  refine RunC.seq ?_
  refine RunC.region ?_
  refine RunR.sil hU [] 1 1 [0, 2, 3, 4] [(0, .string s), (2, .slice none 0 0), (3, .bool false), (4, .slice none 0 0)] ((True) ∧ True) rfl (by kernel_rfl) ⟨trivial, trivial⟩ ?_
  refine RunR.done (by kernel_rfl) ?_
  refine kseq_n ?_
  refine RunC.seq ?_
  refine RunC.region ?_
  refine RunR.sil hU [] 1 1 [0, 2, 3, 4, 5] [(0, .string s), (2, .slice none 0 0), (3, .bool false), (4, .slice none 0 0), (5, .int .i64 0)] ((True) ∧ True) rfl (by kernel_rfl) ⟨trivial, trivial⟩ ?_
  refine RunR.done (by kernel_rfl) ?_
  refine kseq_n ?_
  refine RunC.seq ?_
  refine RunC.region ?_
  refine RunR.sil hU [] 1 1 [0, 2, 3, 4, 5, 6] [(0, .string s), (2, .slice none 0 0), (3, .bool false), (4, .slice none 0 0), (5, .int .i64 0), (6, .int .i64 0)] ((True) ∧ True) rfl (by kernel_rfl) ⟨trivial, trivial⟩ ?_
  refine RunR.done (by kernel_rfl) ?_
  refine kseq_n ?_
  refine RunC.seq ?_
  refine RunC.seq ?_
  refine RunC.region ?_
  refine RunR.sil hU [] 1 1 [0, 2, 3, 4, 5, 6, 7] [(0, .string s), (2, .slice none 0 0), (3, .bool false), (4, .slice none 0 0), (5, .int .i64 0), (6, .int .i64 0), (7, .int .i64 0)] ((True) ∧ True) rfl (by kernel_rfl) ⟨trivial, trivial⟩ ?_
  refine RunR.done (by kernel_rfl) ?_
  refine kseq_n ?_
  refine RunC.block ?_
  refine RunC.turn ([row 5 1 (.slice none 0 0) 0 (nums .u8 ([] : List Int))]) (fun _ _ w hs => hs.nil_row 5 1) ?_
  refine RunC.env [0, 4, 5, 6, 7] [(0, .string s), (4, .slice none 0 0), (5, .int .i64 0), (6, .int .i64 0), (7, .int .i64 0)] (by kernel_rfl) ?_
  refine RunC.only [0] [row 5 1 (.slice none 0 0) 0 (nums .u8 ([] : List Int))] (by kernel_rfl) ?_
  refine RunC.loop (σ := Nat) (fun n_ t_ D_ => ∃ (i : Int) (v : Int) (b : Int) (os : List Int) (A4 : Option Addr) (c4 : Nat), (0 ≤ i) ∧ (i ≤ (s : ByteArray).size) ∧ (noeq (sb s) i.toNat = true) ∧ (rd (sb s) i.toNat = (os, v, b.toNat)) ∧ ((b = 0 ∧ v = 0) ∨ (b = 2 ∧ 0 ≤ v ∧ v < 4) ∨ (b = 4 ∧ 0 ≤ v ∧ v < 16) ∨ (b = 6 ∧ 0 ≤ v ∧ v < 64)) ∧ (os.length ≤ i.toNat) ∧ (In .u8 os) ∧ (os.length ≤ c4) ∧ (0 < os.length → Option.isSome A4 = true) ∧ n_ = (((s : ByteArray).size - i).toNat : Nat) ∧ t_ = [(0, .string s), (4, .slice A4 os.length c4), (5, .int .i64 v), (6, .int .i64 b), (7, .int .i64 i)] ∧ D_ = [row 5 1 (.slice A4 os.length c4) os.length (nums .u8 os)]) id _ ⟨0, 0, 0, ([] : List Int), none, 0, (by first | assumption | omega | (simp only [List.length_append, List.length_cons, List.length_nil, List.length_set, List.length_replicate, List.length_take, List.length_drop]; omega) | (simp only [fits] at *; omega) | (simp only [List.length_append, List.length_cons, List.length_nil, List.length_set, List.length_replicate, List.length_take, List.length_drop] at *; omega) | (simp; done) | decide), (by first | assumption | omega | (simp only [List.length_append, List.length_cons, List.length_nil, List.length_set, List.length_replicate, List.length_take, List.length_drop]; omega) | (simp only [fits] at *; omega) | (simp only [List.length_append, List.length_cons, List.length_nil, List.length_set, List.length_replicate, List.length_take, List.length_drop] at *; omega) | (simp; done) | decide), (by rfl), (by rfl), (by first | assumption | omega | (simp only [List.length_append, List.length_cons, List.length_nil, List.length_set, List.length_replicate, List.length_take, List.length_drop]; omega) | (simp only [fits] at *; omega) | (simp only [List.length_append, List.length_cons, List.length_nil, List.length_set, List.length_replicate, List.length_take, List.length_drop] at *; omega) | (simp; done) | decide), (by exact Nat.zero_le _), (by exact In.nil _), (by exact Nat.zero_le _), (by intro h; simp at h), rfl, rfl, rfl⟩ ?_
  rintro n_ _ _ ⟨i, v, b, os, A4, c4, hi, his, hne, hr, hb, hol, hios, hcos, hAos, rfl, rfl, rfl⟩
  have hpw := pw_bd hb
  refine RunC.seq ?_
  refine RunC.seq ?_
  refine RunC.region ?_
  refine RunR.sil hU [] 5 5 [0, 4, 5, 6, 7, 14] [(0, .string s), (4, .slice A4 os.length c4), (5, .int .i64 v), (6, .int .i64 b), (7, .int .i64 i), (14, .bool (decide (i < ((s : ByteArray).size : Int))))] ((True) ∧ (True) ∧ (True) ∧ (True) ∧ (True) ∧ True) rfl (by kernel_rfl) ⟨trivial, trivial, trivial, trivial, trivial, trivial⟩ ?_
  refine RunR.env [0, 4, 5, 6, 7, 14] [(0, .string s), (4, .slice A4 os.length c4), (5, .int .i64 v), (6, .int .i64 b), (7, .int .i64 i), (14, .bool (decide (i < ((s : ByteArray).size : Int))))] (by kernel_rfl) ?_
  by_cases h1 : i < ((s : ByteArray).size : Int)
  · skip
    refine RunR.enveq [(0, .string s), (4, .slice A4 os.length c4), (5, .int .i64 v), (6, .int .i64 b), (7, .int .i64 i), (14, .bool true)] (by rw [decide_eq_true h1]; try rfl) ?_
    have hb2 : 0 ≤ (sb s).getD (i).toNat 0 ∧ (sb s).getD (i).toNat 0 < 256 := (In.sb _).at_ _
    refine RunR.sil hU [] 5 10 [0, 4, 5, 6, 7, 19] [(0, .string s), (4, .slice A4 os.length c4), (5, .int .i64 v), (6, .int .i64 b), (7, .int .i64 i), (19, .bool (!decide (((sb s).getD (i).toNat 0) = 61)))] ((True) ∧ (True) ∧ (0 ≤ i ∧ i < (s : ByteArray).size) ∧ (True) ∧ (True) ∧ True) rfl (by kernel_rfl) ⟨trivial, trivial, (by omega), trivial, trivial, trivial⟩ ?_
    refine RunR.done (by kernel_rfl) ?_
    refine kseq_n ?_
    refine RunC.condn (((sb s).getD (i).toNat 0) = 61) (by kernel_rfl) (fun h3 => ?_) (fun h3 => ?_)
    · skip
      refine RunC.skip ?_
      refine kseq_n ?_
      refine RunC.seq ?_
      refine RunC.block ?_
      refine RunC.seq ?_
      refine RunC.region ?_
      refine RunR.sil hU [] 1 1 [0, 4, 5, 6, 7, 8] [(0, .string s), (4, .slice A4 os.length c4), (5, .int .i64 v), (6, .int .i64 b), (7, .int .i64 i), (8, .int .i64 (-1))] ((True) ∧ True) rfl (by kernel_rfl) ⟨trivial, trivial⟩ ?_
      refine RunR.done (by kernel_rfl) ?_
      refine kseq_n ?_
      refine RunC.seq ?_
      refine RunC.seq ?_
      refine RunC.region ?_
      refine RunR.sil hU [] 1 1 [0, 4, 5, 6, 7, 8, 9] [(0, .string s), (4, .slice A4 os.length c4), (5, .int .i64 v), (6, .int .i64 b), (7, .int .i64 i), (8, .int .i64 (-1)), (9, .int .i64 0)] ((True) ∧ True) rfl (by kernel_rfl) ⟨trivial, trivial⟩ ?_
      refine RunR.done (by kernel_rfl) ?_
      refine kseq_n ?_
      refine RunC.block ?_
      refine RunC.env [0, 4, 5, 6, 7, 8, 9] [(0, .string s), (4, .slice A4 os.length c4), (5, .int .i64 v), (6, .int .i64 b), (7, .int .i64 i), (8, .int .i64 (-1)), (9, .int .i64 0)] (by kernel_rfl) ?_
      refine RunC.only [0] [row 5 1 (.slice A4 os.length c4) os.length (nums .u8 os)] (by kernel_rfl) ?_
      refine RunC.loop (σ := Nat) (fun n_ t_ D_ => ∃ (k : Int) (x : Int), (0 ≤ k) ∧ (k ≤ 64) ∧ (x = if 0 ≤ dec ((sb s).getD i.toNat 0) ∧ dec ((sb s).getD i.toNat 0) < k then dec ((sb s).getD i.toNat 0) else -1) ∧ (-1 ≤ x ∧ x ≤ 63) ∧ n_ = ((64 - k).toNat : Nat) ∧ t_ = [(0, .string s), (4, .slice A4 os.length c4), (5, .int .i64 v), (6, .int .i64 b), (7, .int .i64 i), (8, .int .i64 x), (9, .int .i64 k)] ∧ D_ = [row 5 1 (.slice A4 os.length c4) os.length (nums .u8 os)]) id _ ⟨0, (-1), (by first | assumption | omega | (simp only [List.length_append, List.length_cons, List.length_nil, List.length_set, List.length_replicate, List.length_take, List.length_drop]; omega) | (simp only [fits] at *; omega) | (simp only [List.length_append, List.length_cons, List.length_nil, List.length_set, List.length_replicate, List.length_take, List.length_drop] at *; omega) | (simp; done) | decide), (by first | assumption | omega | (simp only [List.length_append, List.length_cons, List.length_nil, List.length_set, List.length_replicate, List.length_take, List.length_drop]; omega) | (simp only [fits] at *; omega) | (simp only [List.length_append, List.length_cons, List.length_nil, List.length_set, List.length_replicate, List.length_take, List.length_drop] at *; omega) | (simp; done) | decide), (by rw [if_neg (by omega)]), (by first | assumption | omega | (simp only [List.length_append, List.length_cons, List.length_nil, List.length_set, List.length_replicate, List.length_take, List.length_drop]; omega) | (simp only [fits] at *; omega) | (simp only [List.length_append, List.length_cons, List.length_nil, List.length_set, List.length_replicate, List.length_take, List.length_drop] at *; omega) | (simp; done) | decide), rfl, rfl, rfl⟩ ?_
      rintro n_ _ _ ⟨k, x, hk, hk6, hx, hxb, rfl, rfl, rfl⟩
      refine RunC.seq ?_
      refine RunC.seq ?_
      refine RunC.region ?_
      refine RunR.sil hU [] 2 2 [0, 4, 5, 6, 7, 8, 9, 23] [(0, .string s), (4, .slice A4 os.length c4), (5, .int .i64 v), (6, .int .i64 b), (7, .int .i64 i), (8, .int .i64 x), (9, .int .i64 k), (23, .bool (decide (k < 64)))] ((True) ∧ (True) ∧ True) rfl (by kernel_rfl) ⟨trivial, trivial, trivial⟩ ?_
      refine RunR.done (by kernel_rfl) ?_
      refine kseq_n ?_
      refine RunC.condp (k < 64) (by kernel_rfl) (fun h4 => ?_) (fun h4 => ?_)
      · skip
        refine RunC.skip ?_
        refine kseq_n ?_
        refine RunC.seq ?_
        refine RunC.block ?_
        refine RunC.seq ?_
        refine RunC.regionU hU 8 [] [] [] (bm 8 0) (by kernel_rfl) (by kernel_rfl) (by kernel_rfl) ?_
        refine RunU.sil hU false 0 (bm 8 1) 26 (.int .i64 k) (True) (by kernel_rfl) trivial (by kernel_rfl) (by kernel_rfl) (fun _ _ _ h => h) ?_
        refine RunU.sil hU false 2 (bm 8 5) 28 (.string s) (True) (by kernel_rfl) trivial (by kernel_rfl) (by kernel_rfl) (fun _ _ _ h => h) ?_
        refine RunU.sil hU false 3 (bm 8 13) 29 (.int .i64 i) (True) (by kernel_rfl) trivial (by kernel_rfl) (by kernel_rfl) (fun _ _ _ h => h) ?_
        refine RunU.sil hU false 4 (bm 8 29) 30 (.int .i64 i) (True) (by kernel_rfl) trivial (by kernel_rfl) (by kernel_rfl) (fun _ _ _ h => h) ?_
        refine RunU.sil hU true 5 (bm 8 61) 31 (.int .i64 (i + 1)) (-9223372036854775808 ≤ (i + 1) ∧ (i + 1) < 9223372036854775808) (by kernel_rfl) (by omega) (by kernel_rfl) (by kernel_rfl) (fun _ _ _ h => h) ?_
        refine RunU.sil hU false 6 (bm 8 125) 32 (.string (ByteArray.extract s ((i).toNat) ((i + 1).toNat))) (0 ≤ i ∧ i ≤ (i + 1) ∧ (i + 1) ≤ (s : ByteArray).size) (by kernel_rfl) (by omega) (by kernel_rfl) (by kernel_rfl) (fun _ _ _ h => h) ?_
        refine RunU.one (dst := some 27) (op := .call { callee := .value (.func 28), args := #[.tmp 26], argTypes := #[3] }) 1 (bm 8 127) [] (by kernel_rfl) (by kernel_rfl) (Step.call 28 [.int .i64 k] (by kernel_rfl) (by kernel_rfl) [] [] [row 5 1 (.slice A4 os.length c4) os.length (nums .u8 os)] (br_letter_spec k (by first | assumption | omega | (simp only [List.length_append, List.length_cons, List.length_nil, List.length_set, List.length_replicate, List.length_take, List.length_drop]; omega) | (simp only [fits] at *; omega) | (simp only [List.length_append, List.length_cons, List.length_nil, List.length_set, List.length_replicate, List.length_take, List.length_drop] at *; omega) | (simp; done) | decide)) [] (by kernel_rfl) (Lend.nil _) ?_)
        rintro _ _ ⟨rfl, rfl⟩
        refine ⟨.inl (by kernel_rfl), ?_⟩
        refine RunU.sil hU false 7 (bm 8 255) 33 (.bool (decide ((strOfNums [ltr k]) = (ByteArray.extract s ((i).toNat) ((i + 1).toNat))))) (True) (by kernel_rfl) trivial (by kernel_rfl) (by kernel_rfl) (fun _ _ _ h => h) ?_
        refine RunU.env [0, 4, 5, 6, 7, 8, 9, 33] [(0, .string s), (4, .slice A4 os.length c4), (5, .int .i64 v), (6, .int .i64 b), (7, .int .i64 i), (8, .int .i64 x), (9, .int .i64 k), (33, .bool (decide ((strOfNums [ltr k]) = (ByteArray.extract s ((i).toNat) ((i + 1).toNat)))))] (by kernel_rfl) ?_
        refine RunU.done (by kernel_rfl) ?_
        refine kseq_n ?_
        refine RunC.condp ((strOfNums [ltr k]) = (ByteArray.extract s ((i).toNat) ((i + 1).toNat))) (by kernel_rfl) (fun h5 => ?_) (fun h5 => ?_)
        · skip
          refine RunC.region ?_
          refine RunR.sil hU [] 2 2 [0, 4, 5, 6, 7, 8, 9] [(0, .string s), (4, .slice A4 os.length c4), (5, .int .i64 v), (6, .int .i64 b), (7, .int .i64 i), (8, .int .i64 k), (9, .int .i64 k)] ((True) ∧ (True) ∧ True) rfl (by kernel_rfl) ⟨trivial, trivial, trivial⟩ ?_
          refine RunR.done (by kernel_rfl) ?_
          refine kblock_n ?_
          refine kseq_n ?_
          refine RunC.region ?_
          refine RunR.sil hU [1] 3 3 [0, 4, 5, 6, 7, 8, 9] [(0, .string s), (4, .slice A4 os.length c4), (5, .int .i64 v), (6, .int .i64 b), (7, .int .i64 i), (8, .int .i64 k), (9, .int .i64 (k + 1))] ((True) ∧ (-9223372036854775808 ≤ (k + 1) ∧ (k + 1) < 9223372036854775808) ∧ (True) ∧ True) rfl (by kernel_rfl) ⟨trivial, (by omega), trivial, trivial⟩ ?_
          refine RunR.done (by kernel_rfl) ?_
          refine kloop_n _ [0, 4, 5, 6, 7, 8, 9] [0] [(0, .string s), (4, .slice A4 os.length c4), (5, .int .i64 v), (6, .int .i64 b), (7, .int .i64 i), (8, .int .i64 k), (9, .int .i64 (k + 1))] [row 5 1 (.slice A4 os.length c4) os.length (nums .u8 os)] (by kernel_rfl) (by kernel_rfl) ?_ ⟨(k + 1), k, (by first | assumption | omega | (simp only [List.length_append, List.length_cons, List.length_nil, List.length_set, List.length_replicate, List.length_take, List.length_drop]; omega) | (simp only [fits] at *; omega) | (simp only [List.length_append, List.length_cons, List.length_nil, List.length_set, List.length_replicate, List.length_take, List.length_drop] at *; omega) | (simp; done) | decide), (by first | assumption | omega | (simp only [List.length_append, List.length_cons, List.length_nil, List.length_set, List.length_replicate, List.length_take, List.length_drop]; omega) | (simp only [fits] at *; omega) | (simp only [List.length_append, List.length_cons, List.length_nil, List.length_set, List.length_replicate, List.length_take, List.length_drop] at *; omega) | (simp; done) | decide), (by first | exact letx_yes hi (by omega) ⟨hk, by omega⟩ (by assumption) | exact letx_no hi (by omega) ⟨hk, by omega⟩ hx (by assumption)), (by first | assumption | omega | (simp only [List.length_append, List.length_cons, List.length_nil, List.length_set, List.length_replicate, List.length_take, List.length_drop]; omega) | (simp only [fits] at *; omega) | (simp only [List.length_append, List.length_cons, List.length_nil, List.length_set, List.length_replicate, List.length_take, List.length_drop] at *; omega) | (simp; done) | decide), rfl, (by first | rfl | simp only [List.length_set]), (by first | rfl | simp only [List.length_set])⟩
          show ((64 - (k + 1)).toNat : Nat) < ((64 - k).toNat : Nat)
          omega
        · skip
          refine RunC.skip ?_
          refine kblock_n ?_
          refine kseq_n ?_
          refine RunC.region ?_
          refine RunR.sil hU [1] 3 3 [0, 4, 5, 6, 7, 8, 9] [(0, .string s), (4, .slice A4 os.length c4), (5, .int .i64 v), (6, .int .i64 b), (7, .int .i64 i), (8, .int .i64 x), (9, .int .i64 (k + 1))] ((True) ∧ (-9223372036854775808 ≤ (k + 1) ∧ (k + 1) < 9223372036854775808) ∧ (True) ∧ True) rfl (by kernel_rfl) ⟨trivial, (by omega), trivial, trivial⟩ ?_
          refine RunR.done (by kernel_rfl) ?_
          refine kloop_n _ [0, 4, 5, 6, 7, 8, 9] [0] [(0, .string s), (4, .slice A4 os.length c4), (5, .int .i64 v), (6, .int .i64 b), (7, .int .i64 i), (8, .int .i64 x), (9, .int .i64 (k + 1))] [row 5 1 (.slice A4 os.length c4) os.length (nums .u8 os)] (by kernel_rfl) (by kernel_rfl) ?_ ⟨(k + 1), x, (by first | assumption | omega | (simp only [List.length_append, List.length_cons, List.length_nil, List.length_set, List.length_replicate, List.length_take, List.length_drop]; omega) | (simp only [fits] at *; omega) | (simp only [List.length_append, List.length_cons, List.length_nil, List.length_set, List.length_replicate, List.length_take, List.length_drop] at *; omega) | (simp; done) | decide), (by first | assumption | omega | (simp only [List.length_append, List.length_cons, List.length_nil, List.length_set, List.length_replicate, List.length_take, List.length_drop]; omega) | (simp only [fits] at *; omega) | (simp only [List.length_append, List.length_cons, List.length_nil, List.length_set, List.length_replicate, List.length_take, List.length_drop] at *; omega) | (simp; done) | decide), (by first | exact letx_yes hi (by omega) ⟨hk, by omega⟩ (by assumption) | exact letx_no hi (by omega) ⟨hk, by omega⟩ hx (by assumption)), (by first | assumption | omega | (simp only [List.length_append, List.length_cons, List.length_nil, List.length_set, List.length_replicate, List.length_take, List.length_drop]; omega) | (simp only [fits] at *; omega) | (simp only [List.length_append, List.length_cons, List.length_nil, List.length_set, List.length_replicate, List.length_take, List.length_drop] at *; omega) | (simp; done) | decide), rfl, (by first | rfl | simp only [List.length_set]), (by first | rfl | simp only [List.length_set])⟩
          show ((64 - (k + 1)).toNat : Nat) < ((64 - k).toNat : Nat)
          omega
      · skip
        refine RunC.exit ?_
        refine kseq_e ?_
        refine kloop_e ?_
        refine kblock_e ?_
        refine kseq_n ?_
        refine RunC.seq ?_
        refine RunC.seq ?_
        refine RunC.region ?_
        refine RunR.sil hU [] 2 2 [0, 4, 5, 6, 7, 8, 36] [(0, .string s), (4, .slice A4 os.length c4), (5, .int .i64 v), (6, .int .i64 b), (7, .int .i64 i), (8, .int .i64 x), (36, .bool (decide (x < 0)))] ((True) ∧ (True) ∧ True) rfl (by kernel_rfl) ⟨trivial, trivial, trivial⟩ ?_
        refine RunR.done (by kernel_rfl) ?_
        refine kseq_n ?_
        refine RunC.condp (x < 0) (by kernel_rfl) (fun h6 => ?_) (fun h6 => ?_)
        · skip
          refine RunC.seq ?_
          refine RunC.region ?_
          refine RunR.sil hU [] 2 2 [0, 2, 3, 4, 5, 6, 7, 8] [(0, .string s), (2, .slice none 0 0), (3, .bool false), (4, .slice A4 os.length c4), (5, .int .i64 v), (6, .int .i64 b), (7, .int .i64 i), (8, .int .i64 x)] ((True) ∧ (True) ∧ True) rfl (by kernel_rfl) ⟨trivial, trivial, trivial⟩ ?_
          refine RunR.done (by kernel_rfl) ?_
          refine kseq_n ?_
          refine RunC.ret ?_
          refine kseq_r ?_
          refine kblock_r ?_
          refine kseq_r ?_
          refine kloop_r ?_
          refine kblock_r ?_
          refine kseq_r ?_
          refine kret_rt ([row 5 1 (.slice none 0 0) 0 (nums .u8 ([] : List Int)), row 5 1 (.slice A4 os.length c4) os.length (nums .u8 os)]) (fun w0 W w hs => (hs).nil_row 5 1) [.slice none 0 0, .bool false] [0] [row 5 1 (.slice none 0 0) 0 (nums .u8 ([] : List Int))] ⟨rfl, rfl, trivial⟩ (by kernel_rfl) rfl ⟨none, 0, [], false, rfl, rfl, (by simp only [Bool.false_eq_true, if_false]; exact ref_bad (In.sb s) (i := i.toNat) (by rw [sb_len]; omega) (by assumption) (by rw [← letx_end (by assumption) hx]; omega)), (by intro _; rfl), (by exact In.nil _), (by exact Nat.zero_le _), (by exact Nat.le_refl _), (by intro h; simp at h)⟩
        · skip
          refine RunC.skip ?_
          refine kseq_n ?_
          refine RunC.seq ?_
          refine RunC.region ?_
          refine RunR.sil hU [1, 3] 5 5 [0, 4, 5, 6, 7] [(0, .string s), (4, .slice A4 os.length c4), (5, .int .i64 ((v * 64) + x)), (6, .int .i64 b), (7, .int .i64 i)] ((True) ∧ (-9223372036854775808 ≤ (v * 64) ∧ (v * 64) < 9223372036854775808) ∧ (True) ∧ (-9223372036854775808 ≤ ((v * 64) + x) ∧ ((v * 64) + x) < 9223372036854775808) ∧ (True) ∧ True) rfl (by kernel_rfl) ⟨trivial, (by omega), trivial, (by omega), trivial, trivial⟩ ?_
          refine RunR.done (by kernel_rfl) ?_
          refine kseq_n ?_
          refine RunC.seq ?_
          refine RunC.region ?_
          refine RunR.sil hU [1] 3 3 [0, 4, 5, 6, 7] [(0, .string s), (4, .slice A4 os.length c4), (5, .int .i64 ((v * 64) + x)), (6, .int .i64 (b + 6)), (7, .int .i64 i)] ((True) ∧ (-9223372036854775808 ≤ (b + 6) ∧ (b + 6) < 9223372036854775808) ∧ (True) ∧ True) rfl (by kernel_rfl) ⟨trivial, (by omega), trivial, trivial⟩ ?_
          refine RunR.done (by kernel_rfl) ?_
          refine kseq_n ?_
          refine RunC.seq ?_
          refine RunC.region ?_
          refine RunR.sil hU [] 2 2 [0, 4, 5, 6, 7, 44] [(0, .string s), (4, .slice A4 os.length c4), (5, .int .i64 ((v * 64) + x)), (6, .int .i64 (b + 6)), (7, .int .i64 i), (44, .bool (decide ((b + 6) ≥ 8)))] ((True) ∧ (True) ∧ True) rfl (by kernel_rfl) ⟨trivial, trivial, trivial⟩ ?_
          refine RunR.done (by kernel_rfl) ?_
          refine kseq_n ?_
          refine RunC.condp ((b + 6) ≥ 8) (by kernel_rfl) (fun h7 => ?_) (fun h7 => ?_)
          · skip
            refine RunC.seq ?_
            refine RunC.region ?_
            refine RunR.sil hU [1] 3 3 [0, 4, 5, 6, 7] [(0, .string s), (4, .slice A4 os.length c4), (5, .int .i64 ((v * 64) + x)), (6, .int .i64 ((b + 6) - 8)), (7, .int .i64 i)] ((True) ∧ (-9223372036854775808 ≤ ((b + 6) - 8) ∧ ((b + 6) - 8) < 9223372036854775808) ∧ (True) ∧ True) rfl (by kernel_rfl) ⟨trivial, (by omega), trivial, trivial⟩ ?_
            refine RunR.done (by kernel_rfl) ?_
            refine kseq_n ?_
            refine RunC.seq ?_
            refine RunC.region ?_
            have hm8 : 0 ≤ ((v * 64) + x) → 0 ≤ ((v * 64) + x) / 2 ^ (min ((b + 6) - 8).toNat 64) ∧ ((v * 64) + x) / 2 ^ (min ((b + 6) - 8).toNat 64) ≤ ((v * 64) + x) := fun h => ⟨Int.ediv_nonneg h (Int.le_of_lt (Int.pow_pos (by decide))), Int.ediv_le_self _ h⟩
            refine RunR.sil hU [3, 4] 6 6 [0, 4, 5, 6, 7, 47, 52] [(0, .string s), (4, .slice A4 os.length c4), (5, .int .i64 ((v * 64) + x)), (6, .int .i64 ((b + 6) - 8)), (7, .int .i64 i), (47, .slice A4 os.length c4), (52, .int .u8 (IntKind.wrap .u8 (((v * 64) + x) / 2 ^ (min ((b + 6) - 8).toNat 64))))] ((True) ∧ (True) ∧ (True) ∧ (0 ≤ ((b + 6) - 8) ∧ ((b + 6) - 8) < 18446744073709551616) ∧ (0 ≤ ((b + 6) - 8)) ∧ (True) ∧ True) rfl (by kernel_rfl) ⟨trivial, trivial, trivial, (by omega), (by omega), trivial, trivial⟩ ?_
            refine RunR.step (dst := some 53) (op := .buildSlice 22 1 #[(0, .tmp 52)]) (by kernel_rfl) (Step.lit_nums hU 5 1 .u8 (.int .u8 0) ([IntKind.wrap .u8 (((v * 64) + x) / 2 ^ (min ((b + 6) - 8).toNat 64))] : List Int) rfl rfl (by kernel_rfl) rfl rfl (by kernel_rfl) (fun b9 => ?_))
            have hl10 : (([IntKind.wrap .u8 (((v * 64) + x) / 2 ^ (min ((b + 6) - 8).toNat 64))] : List Int)).length = 1 := rfl
            have hl15 : (([IntKind.wrap .u8 (((v * 64) + x) / 2 ^ (min ((b + 6) - 8).toNat 64))] : List Int)).length = 1 := rfl
            refine RunR.step (dst := some 54) (op := .call { callee := .builtin .append, args := #[.tmp 47, .tmp 53], argTypes := #[22, 22] }) (by kernel_rfl) (Step.append_nums hU 5 1 (.int .u8 0) .u8 1 0 A4 os.length c4 os (some ⟨b9, 0, none⟩) 1 1 (row 5 1 (.slice (some ⟨b9, 0, none⟩) 1 1) 1 (nums .u8 ([IntKind.wrap .u8 (((v * 64) + x) / 2 ^ (min ((b + 6) - 8).toNat 64))] : List Int))) ([IntKind.wrap .u8 (((v * 64) + x) / 2 ^ (min ((b + 6) - 8).toNat 64))] : List Int) rfl rfl rfl (by kernel_rfl) (by kernel_rfl) (by kernel_rfl) (by kernel_rfl) (tells_row _ _ _ _ _ _) (by first | rfl | omega | (simp; omega)) (by first | rfl | omega | (simp; omega)) (by omega) (by omega) (by kernel_rfl) (fun Aq11 cq12 hc13 hA14 => ?_))
            have hl16 : (os ++ ([IntKind.wrap .u8 (((v * 64) + x) / 2 ^ (min ((b + 6) - 8).toNat 64))] : List Int)).length = os.length + ([IntKind.wrap .u8 (((v * 64) + x) / 2 ^ (min ((b + 6) - 8).toNat 64))] : List Int).length := List.length_append
            simp only [List.length_cons, List.length_nil] at hl16
            refine RunR.sil hU [] 1 9 [0, 4, 5, 6, 7] [(0, .string s), (4, .slice Aq11 ((os ++ ([IntKind.wrap .u8 (((v * 64) + x) / 2 ^ (min ((b + 6) - 8).toNat 64))] : List Int)).length) cq12), (5, .int .i64 ((v * 64) + x)), (6, .int .i64 ((b + 6) - 8)), (7, .int .i64 i)] ((True) ∧ True) rfl (by kernel_rfl) ⟨trivial, trivial⟩ ?_
            refine RunR.done (by kernel_rfl) ?_
            refine kseq_n ?_
            refine RunC.region ?_
            refine RunR.sil hU [2, 3, 4] 7 7 [0, 4, 5, 6, 7] [(0, .string s), (4, .slice Aq11 ((os ++ ([IntKind.wrap .u8 (((v * 64) + x) / 2 ^ (min ((b + 6) - 8).toNat 64))] : List Int)).length) cq12), (5, .int .i64 (bits2 .and .i64 ((v * 64) + x) (((1 : Int) * 2 ^ (min ((b + 6) - 8).toNat 64)) - 1))), (6, .int .i64 ((b + 6) - 8)), (7, .int .i64 i)] ((True) ∧ (True) ∧ (0 ≤ ((b + 6) - 8) ∧ ((b + 6) - 8) < 18446744073709551616) ∧ (0 ≤ ((b + 6) - 8) ∧ -9223372036854775808 ≤ ((1 : Int) * 2 ^ (min ((b + 6) - 8).toNat 64)) ∧ ((1 : Int) * 2 ^ (min ((b + 6) - 8).toNat 64)) < 9223372036854775808) ∧ (-9223372036854775808 ≤ (((1 : Int) * 2 ^ (min ((b + 6) - 8).toNat 64)) - 1) ∧ (((1 : Int) * 2 ^ (min ((b + 6) - 8).toNat 64)) - 1) < 9223372036854775808) ∧ (True) ∧ (True) ∧ True) rfl (by kernel_rfl) ⟨trivial, trivial, (by omega), (by omega), (by omega), trivial, trivial, trivial⟩ ?_
            refine RunR.done (by kernel_rfl) ?_
            refine kblock_n ?_
            refine kseq_n ?_
            refine RunC.region ?_
            refine RunR.sil hU [1] 3 3 [0, 4, 5, 6, 7] [(0, .string s), (4, .slice Aq11 ((os ++ ([IntKind.wrap .u8 (((v * 64) + x) / 2 ^ (min ((b + 6) - 8).toNat 64))] : List Int)).length) cq12), (5, .int .i64 (bits2 .and .i64 ((v * 64) + x) (((1 : Int) * 2 ^ (min ((b + 6) - 8).toNat 64)) - 1))), (6, .int .i64 ((b + 6) - 8)), (7, .int .i64 (i + 1))] ((True) ∧ (-9223372036854775808 ≤ (i + 1) ∧ (i + 1) < 9223372036854775808) ∧ (True) ∧ True) rfl (by kernel_rfl) ⟨trivial, (by omega), trivial, trivial⟩ ?_
            refine RunR.done (by kernel_rfl) ?_
            refine kloop_n _ [0, 4, 5, 6, 7] [0] [(0, .string s), (4, .slice Aq11 ((os ++ ([IntKind.wrap .u8 (((v * 64) + x) / 2 ^ (min ((b + 6) - 8).toNat 64))] : List Int)).length) cq12), (5, .int .i64 (bits2 .and .i64 ((v * 64) + x) (((1 : Int) * 2 ^ (min ((b + 6) - 8).toNat 64)) - 1))), (6, .int .i64 ((b + 6) - 8)), (7, .int .i64 (i + 1))] [row 5 1 (.slice Aq11 ((os ++ ([IntKind.wrap .u8 (((v * 64) + x) / 2 ^ (min ((b + 6) - 8).toNat 64))] : List Int)).length) cq12) ((os ++ ([IntKind.wrap .u8 (((v * 64) + x) / 2 ^ (min ((b + 6) - 8).toNat 64))] : List Int)).length) (nums .u8 (os ++ ([IntKind.wrap .u8 (((v * 64) + x) / 2 ^ (min ((b + 6) - 8).toNat 64))] : List Int)))] (by kernel_rfl) (by kernel_rfl) ?_ ⟨(i + 1), (bits2 .and .i64 ((v * 64) + x) (((1 : Int) * 2 ^ (min ((b + 6) - 8).toNat 64)) - 1)), ((b + 6) - 8), (os ++ ([IntKind.wrap .u8 (((v * 64) + x) / 2 ^ (min ((b + 6) - 8).toNat 64))] : List Int)), Aq11, cq12, (by first | assumption | omega | (simp only [List.length_append, List.length_cons, List.length_nil, List.length_set, List.length_replicate, List.length_take, List.length_drop]; omega) | (simp only [fits] at *; omega) | (simp only [List.length_append, List.length_cons, List.length_nil, List.length_set, List.length_replicate, List.length_take, List.length_drop] at *; omega) | (simp; done) | decide), (by first | assumption | omega | (simp only [List.length_append, List.length_cons, List.length_nil, List.length_set, List.length_replicate, List.length_take, List.length_drop]; omega) | (simp only [fits] at *; omega) | (simp only [List.length_append, List.length_cons, List.length_nil, List.length_set, List.length_replicate, List.length_take, List.length_drop] at *; omega) | (simp; done) | decide), (by rw [show (i + 1).toNat = i.toNat + 1 by omega, noeq, hne, decide_eq_true (by assumption)]; rfl), (by first | exact (rd_yes hi hr hb (letx_end (by assumption) hx) ⟨by omega, by omega⟩ (by assumption)).1 | exact rd_not hi hr hb (letx_end (by assumption) hx) (by assumption)), (by first | exact (rd_yes hi hr hb (letx_end (by assumption) hx) ⟨by omega, by omega⟩ (by assumption)).2 | omega), (by first | (rw [List.length_append]; simp only [List.length_cons, List.length_nil]; omega) | omega), (by (repeat first | assumption | (simp only [fits]; omega) | with_reducible first | exact fits_wrap _ _ | exact fits_bits2 _ _ _ _ | exact In.nil _ | exact In.sb _ | exact In.replicate _ _ | apply In.append | apply In.cons | apply In.set | apply In.take | apply In.drop | apply In.rev)), (by first | assumption | omega | (simp only [List.length_append, List.length_cons, List.length_nil, List.length_set, List.length_replicate, List.length_take, List.length_drop]; omega) | (simp only [fits] at *; omega) | (simp only [List.length_append, List.length_cons, List.length_nil, List.length_set, List.length_replicate, List.length_take, List.length_drop] at *; omega) | (simp; done) | decide), (fun h => hA14 (by first | exact h | (simp at h ⊢; omega))), rfl, (by first | rfl | simp only [List.length_set]), (by first | rfl | simp only [List.length_set])⟩
            show (((s : ByteArray).size - (i + 1)).toNat : Nat) < (((s : ByteArray).size - i).toNat : Nat)
            omega
          · skip
            refine RunC.skip ?_
            refine kblock_n ?_
            refine kseq_n ?_
            refine RunC.region ?_
            refine RunR.sil hU [1] 3 3 [0, 4, 5, 6, 7] [(0, .string s), (4, .slice A4 os.length c4), (5, .int .i64 ((v * 64) + x)), (6, .int .i64 (b + 6)), (7, .int .i64 (i + 1))] ((True) ∧ (-9223372036854775808 ≤ (i + 1) ∧ (i + 1) < 9223372036854775808) ∧ (True) ∧ True) rfl (by kernel_rfl) ⟨trivial, (by omega), trivial, trivial⟩ ?_
            refine RunR.done (by kernel_rfl) ?_
            refine kloop_n _ [0, 4, 5, 6, 7] [0] [(0, .string s), (4, .slice A4 os.length c4), (5, .int .i64 ((v * 64) + x)), (6, .int .i64 (b + 6)), (7, .int .i64 (i + 1))] [row 5 1 (.slice A4 os.length c4) os.length (nums .u8 os)] (by kernel_rfl) (by kernel_rfl) ?_ ⟨(i + 1), ((v * 64) + x), (b + 6), os, A4, c4, (by first | assumption | omega | (simp only [List.length_append, List.length_cons, List.length_nil, List.length_set, List.length_replicate, List.length_take, List.length_drop]; omega) | (simp only [fits] at *; omega) | (simp only [List.length_append, List.length_cons, List.length_nil, List.length_set, List.length_replicate, List.length_take, List.length_drop] at *; omega) | (simp; done) | decide), (by first | assumption | omega | (simp only [List.length_append, List.length_cons, List.length_nil, List.length_set, List.length_replicate, List.length_take, List.length_drop]; omega) | (simp only [fits] at *; omega) | (simp only [List.length_append, List.length_cons, List.length_nil, List.length_set, List.length_replicate, List.length_take, List.length_drop] at *; omega) | (simp; done) | decide), (by rw [show (i + 1).toNat = i.toNat + 1 by omega, noeq, hne, decide_eq_true (by assumption)]; rfl), (by first | exact (rd_yes hi hr hb (letx_end (by assumption) hx) ⟨by omega, by omega⟩ (by assumption)).1 | exact rd_not hi hr hb (letx_end (by assumption) hx) (by assumption)), (by first | exact (rd_yes hi hr hb (letx_end (by assumption) hx) ⟨by omega, by omega⟩ (by assumption)).2 | omega), (by first | (rw [List.length_append]; simp only [List.length_cons, List.length_nil]; omega) | omega), hios, (by first | assumption | omega | (simp only [List.length_append, List.length_cons, List.length_nil, List.length_set, List.length_replicate, List.length_take, List.length_drop]; omega) | (simp only [fits] at *; omega) | (simp only [List.length_append, List.length_cons, List.length_nil, List.length_set, List.length_replicate, List.length_take, List.length_drop] at *; omega) | (simp; done) | decide), (fun h => hAos (by first | exact h | (simp at h ⊢; omega))), rfl, (by first | rfl | simp only [List.length_set]), (by first | rfl | simp only [List.length_set])⟩
            show (((s : ByteArray).size - (i + 1)).toNat : Nat) < (((s : ByteArray).size - i).toNat : Nat)
            omega
    · skip
      refine RunC.exit ?_
      refine kseq_e ?_
      refine kloop_e ?_
      refine kblock_e ?_
      refine kseq_n ?_
      refine RunC.seq ?_
      refine RunC.seq ?_
      refine RunC.region ?_
      refine RunR.sil hU [] 1 1 [0, 4, 61] [(0, .string s), (4, .slice A4 os.length c4), (61, .slice A4 os.length c4)] ((True) ∧ True) rfl (by kernel_rfl) ⟨trivial, trivial⟩ ?_
      refine RunR.step (dst := some 62) (op := .call { callee := .value (.func 14), args := #[.tmp 61], argTypes := #[22] }) (by kernel_rfl) (Step.call 14 [.slice A4 os.length c4] (by kernel_rfl) (by kernel_rfl) [] [vw A4 (nums .u8 os)] [row 5 1 (.slice A4 os.length c4) os.length (nums .u8 os)] (br_Text_spec A4 c4 os os.length hios (by first | assumption | omega | (simp only [List.length_append, List.length_cons, List.length_nil, List.length_set, List.length_replicate, List.length_take, List.length_drop]; omega) | (simp only [fits] at *; omega) | (simp only [List.length_append, List.length_cons, List.length_nil, List.length_set, List.length_replicate, List.length_take, List.length_drop] at *; omega) | (simp; done) | decide) (by first | assumption | omega | (simp only [List.length_append, List.length_cons, List.length_nil, List.length_set, List.length_replicate, List.length_take, List.length_drop]; omega) | (simp only [fits] at *; omega) | (simp only [List.length_append, List.length_cons, List.length_nil, List.length_set, List.length_replicate, List.length_take, List.length_drop] at *; omega) | (simp; done) | decide) (by first | rfl | assumption | omega | (simp only [List.length_append, List.length_cons, List.length_nil, List.length_set, List.length_replicate, List.length_take, List.length_drop]; omega) | (simp; done))) [] (by kernel_rfl) ((Lend.nil _).tells 0 (row 5 1 (.slice A4 os.length c4) os.length (nums .u8 os)) A4 (nums .u8 os) (by kernel_rfl) (tells_row _ _ _ _ _ _)) ?_)
      rintro _ _ ⟨rfl, rfl⟩
      refine RunR.sil hU [] 2 4 [4, 64] [(4, .slice A4 os.length c4), (64, .bool (!decide ((strOfNums (enc os)) = s)))] ((True) ∧ (True) ∧ True) rfl (by kernel_rfl) ⟨trivial, trivial, trivial⟩ ?_
      refine RunR.done (by kernel_rfl) ?_
      refine kseq_n ?_
      refine RunC.condn ((strOfNums (enc os)) = s) (by kernel_rfl) (fun h17 => ?_) (fun h17 => ?_)
      · skip
        refine RunC.seq ?_
        refine RunC.region ?_
        refine RunR.sil hU [] 2 2 [2, 3, 4] [(2, .slice none 0 0), (3, .bool false), (4, .slice A4 os.length c4)] ((True) ∧ (True) ∧ True) rfl (by kernel_rfl) ⟨trivial, trivial, trivial⟩ ?_
        refine RunR.done (by kernel_rfl) ?_
        refine kseq_n ?_
        refine RunC.ret ?_
        refine kseq_r ?_
        refine kret_rt ([row 5 1 (.slice none 0 0) 0 (nums .u8 ([] : List Int)), row 5 1 (.slice A4 os.length c4) os.length (nums .u8 os)]) (fun w0 W w hs => (hs).nil_row 5 1) [.slice none 0 0, .bool false] [0] [row 5 1 (.slice none 0 0) 0 (nums .u8 ([] : List Int))] ⟨rfl, rfl, trivial⟩ (by kernel_rfl) rfl ⟨none, 0, [], false, rfl, rfl, (by simp only [Bool.false_eq_true, if_false]; exact ref_no (In.sb s) hne (by rw [sb_len]; omega) (by first | (intro hlt; rw [sb_len] at hlt; omega) | (intro _; omega)) (by rw [hr]) (fun e => (by assumption : ¬ strOfNums (enc os) = s) (by rw [e, str_sb]))), (by intro _; rfl), (by exact In.nil _), (by exact Nat.zero_le _), (by exact Nat.le_refl _), (by intro h; simp at h)⟩
      · skip
        refine RunC.skip ?_
        refine kseq_n ?_
        refine RunC.seq ?_
        refine RunC.region ?_
        refine RunR.sil hU [] 3 3 [2, 3] [(2, .slice A4 os.length c4), (3, .bool true)] ((True) ∧ (True) ∧ (True) ∧ True) rfl (by kernel_rfl) ⟨trivial, trivial, trivial, trivial⟩ ?_
        refine RunR.done (by kernel_rfl) ?_
        refine kseq_n ?_
        refine RunC.ret ?_
        refine kret_r [.slice A4 os.length c4, .bool true] [0] [row 5 1 (.slice A4 os.length c4) os.length (nums .u8 os)] ⟨rfl, rfl, trivial⟩ (by kernel_rfl) rfl ⟨A4, c4, os, true, rfl, rfl, (by rw [if_pos rfl]; exact ref_yes hios (by have e := congrArg sb (by assumption : strOfNums (enc os) = s); rw [B.sb_str (enc_in os)] at e; exact e)), (by intro h; cases h), (by exact hios), (by omega), (by first | assumption | omega | (simp only [List.length_append, List.length_cons, List.length_nil, List.length_set, List.length_replicate, List.length_take, List.length_drop]; omega) | (simp only [fits] at *; omega) | (simp only [List.length_append, List.length_cons, List.length_nil, List.length_set, List.length_replicate, List.length_take, List.length_drop] at *; omega) | (simp; done) | decide), (fun h => hAos (by first | exact h | (simp at h ⊢; omega)))⟩
  · skip
    refine RunR.enveq [(0, .string s), (4, .slice A4 os.length c4), (5, .int .i64 v), (6, .int .i64 b), (7, .int .i64 i), (14, .bool false)] (by rw [decide_eq_false h1]; try rfl) ?_
    refine RunR.sil hU [] 5 10 [0, 4, 5, 6, 7, 19] [(0, .string s), (4, .slice A4 os.length c4), (5, .int .i64 v), (6, .int .i64 b), (7, .int .i64 i), (19, .bool false)] ((True) ∧ True) rfl (by kernel_rfl) ⟨trivial, trivial⟩ ?_
    refine RunR.done (by kernel_rfl) ?_
    refine kseq_n ?_
    refine RunC.cond (b := false) (by kernel_rfl) (fun h => by cases h) (fun _ => ?_)
    refine RunC.exit ?_
    refine kseq_e ?_
    refine kloop_e ?_
    refine kblock_e ?_
    refine kseq_n ?_
    refine RunC.seq ?_
    refine RunC.seq ?_
    refine RunC.region ?_
    refine RunR.sil hU [] 1 1 [0, 4, 61] [(0, .string s), (4, .slice A4 os.length c4), (61, .slice A4 os.length c4)] ((True) ∧ True) rfl (by kernel_rfl) ⟨trivial, trivial⟩ ?_
    refine RunR.step (dst := some 62) (op := .call { callee := .value (.func 14), args := #[.tmp 61], argTypes := #[22] }) (by kernel_rfl) (Step.call 14 [.slice A4 os.length c4] (by kernel_rfl) (by kernel_rfl) [] [vw A4 (nums .u8 os)] [row 5 1 (.slice A4 os.length c4) os.length (nums .u8 os)] (br_Text_spec A4 c4 os os.length hios (by first | assumption | omega | (simp only [List.length_append, List.length_cons, List.length_nil, List.length_set, List.length_replicate, List.length_take, List.length_drop]; omega) | (simp only [fits] at *; omega) | (simp only [List.length_append, List.length_cons, List.length_nil, List.length_set, List.length_replicate, List.length_take, List.length_drop] at *; omega) | (simp; done) | decide) (by first | assumption | omega | (simp only [List.length_append, List.length_cons, List.length_nil, List.length_set, List.length_replicate, List.length_take, List.length_drop]; omega) | (simp only [fits] at *; omega) | (simp only [List.length_append, List.length_cons, List.length_nil, List.length_set, List.length_replicate, List.length_take, List.length_drop] at *; omega) | (simp; done) | decide) (by first | rfl | assumption | omega | (simp only [List.length_append, List.length_cons, List.length_nil, List.length_set, List.length_replicate, List.length_take, List.length_drop]; omega) | (simp; done))) [] (by kernel_rfl) ((Lend.nil _).tells 0 (row 5 1 (.slice A4 os.length c4) os.length (nums .u8 os)) A4 (nums .u8 os) (by kernel_rfl) (tells_row _ _ _ _ _ _)) ?_)
    rintro _ _ ⟨rfl, rfl⟩
    refine RunR.sil hU [] 2 4 [4, 64] [(4, .slice A4 os.length c4), (64, .bool (!decide ((strOfNums (enc os)) = s)))] ((True) ∧ (True) ∧ True) rfl (by kernel_rfl) ⟨trivial, trivial, trivial⟩ ?_
    refine RunR.done (by kernel_rfl) ?_
    refine kseq_n ?_
    refine RunC.condn ((strOfNums (enc os)) = s) (by kernel_rfl) (fun h18 => ?_) (fun h18 => ?_)
    · skip
      refine RunC.seq ?_
      refine RunC.region ?_
      refine RunR.sil hU [] 2 2 [2, 3, 4] [(2, .slice none 0 0), (3, .bool false), (4, .slice A4 os.length c4)] ((True) ∧ (True) ∧ True) rfl (by kernel_rfl) ⟨trivial, trivial, trivial⟩ ?_
      refine RunR.done (by kernel_rfl) ?_
      refine kseq_n ?_
      refine RunC.ret ?_
      refine kseq_r ?_
      refine kret_rt ([row 5 1 (.slice none 0 0) 0 (nums .u8 ([] : List Int)), row 5 1 (.slice A4 os.length c4) os.length (nums .u8 os)]) (fun w0 W w hs => (hs).nil_row 5 1) [.slice none 0 0, .bool false] [0] [row 5 1 (.slice none 0 0) 0 (nums .u8 ([] : List Int))] ⟨rfl, rfl, trivial⟩ (by kernel_rfl) rfl ⟨none, 0, [], false, rfl, rfl, (by simp only [Bool.false_eq_true, if_false]; exact ref_no (In.sb s) hne (by rw [sb_len]; omega) (by first | (intro hlt; rw [sb_len] at hlt; omega) | (intro _; omega)) (by rw [hr]) (fun e => (by assumption : ¬ strOfNums (enc os) = s) (by rw [e, str_sb]))), (by intro _; rfl), (by exact In.nil _), (by exact Nat.zero_le _), (by exact Nat.le_refl _), (by intro h; simp at h)⟩
    · skip
      refine RunC.skip ?_
      refine kseq_n ?_
      refine RunC.seq ?_
      refine RunC.region ?_
      refine RunR.sil hU [] 3 3 [2, 3] [(2, .slice A4 os.length c4), (3, .bool true)] ((True) ∧ (True) ∧ (True) ∧ True) rfl (by kernel_rfl) ⟨trivial, trivial, trivial, trivial⟩ ?_
      refine RunR.done (by kernel_rfl) ?_
      refine kseq_n ?_
      refine RunC.ret ?_
      refine kret_r [.slice A4 os.length c4, .bool true] [0] [row 5 1 (.slice A4 os.length c4) os.length (nums .u8 os)] ⟨rfl, rfl, trivial⟩ (by kernel_rfl) rfl ⟨A4, c4, os, true, rfl, rfl, (by rw [if_pos rfl]; exact ref_yes hios (by have e := congrArg sb (by assumption : strOfNums (enc os) = s); rw [B.sb_str (enc_in os)] at e; exact e)), (by intro h; cases h), (by exact hios), (by omega), (by first | assumption | omega | (simp only [List.length_append, List.length_cons, List.length_nil, List.length_set, List.length_replicate, List.length_take, List.length_drop]; omega) | (simp only [fits] at *; omega) | (simp only [List.length_append, List.length_cons, List.length_nil, List.length_set, List.length_replicate, List.length_take, List.length_drop] at *; omega) | (simp; done) | decide), (fun h => hAos (by first | exact h | (simp at h ⊢; omega)))⟩
end Go.Proofs.YtjhinpmnpdgadaaDoor.X9
