/- What these functions compute: a contract for each, walked through its code. -/
import Derived.Test.YtoaoabnhkiijpaaRPure
import Derived.Test.YtoaoabnhkiijpaaProg
import Derived.Test.YtoaoabnhkiijpaaX1
import Derived.Test.YtoaoabnhkiijpaaX2
import Derived.Test.YtoaoabnhkiijpaaX3
import Derived.Test.YtoaoabnhkiijpaaX4
import Derived.Test.YtoaoabnhkiijpaaX5
import Derived.Test.YtoaoabnhkiijpaaX6
import Derived.Test.YtoaoabnhkiijpaaX7
import Derived.Test.YtoaoabnhkiijpaaX8
import Derived.Test.YtoaoabnhkiijpaaX9
namespace Go.Proofs.Ytoaoabnhkiijpaa.Y1
open Go Go.Proofs.Ytoaoabnhkiijpaa.SL Go.Proofs.Ytoaoabnhkiijpaa.SL.W Go.Proofs.Ytoaoabnhkiijpaa.SL.Y Go.Proofs.Ytoaoabnhkiijpaa.X1 Go.Proofs.Ytoaoabnhkiijpaa.X2 Go.Proofs.Ytoaoabnhkiijpaa.X3 Go.Proofs.Ytoaoabnhkiijpaa.X4 Go.Proofs.Ytoaoabnhkiijpaa.X5 Go.Proofs.Ytoaoabnhkiijpaa.X6 Go.Proofs.Ytoaoabnhkiijpaa.X7 Go.Proofs.Ytoaoabnhkiijpaa.X8 Go.Proofs.Ytoaoabnhkiijpaa.X9
set_option linter.unusedVariables false
set_option linter.unusedSimpArgs false
set_option maxRecDepth 100000
set_option maxHeartbeats 40000000
def U : Tab where
  und := [(3, .int .i64), (5, .int .u8), (9, .string), (22, .slice 5), (25, .int .i64)]
  fld := []
  sz := [(3, 1), (5, 1), (9, 1), (22, 1), (25, 1)]
  ti := [(3, (1, 8, .int .i64 0)), (5, (1, 1, .int .u8 0)), (9, (1, 16, .string ⟨#[]⟩)), (22, (1, 24, .slice none 0 0)), (25, (1, 8, .int .i64 0))]
  bld := []

theorem hU : U.OK Try.prog where
  und := by
    intro p hp
    simp only [U, List.mem_cons, List.not_mem_nil, or_false] at hp
    rcases hp with rfl | rfl | rfl | rfl | rfl
    · exact Try.underlying3
    · exact Try.underlying5
    · exact Try.underlying9
    · exact Try.underlying22
    · exact Try.underlying25
  fld := by
    intro p hp; cases hp
  sz := by
    intro p hp
    simp only [U, List.mem_cons, List.not_mem_nil, or_false] at hp
    rcases hp with rfl | rfl | rfl | rfl | rfl
    · exact ⟨Try.prog.types[3]!, by kernel_rfl, by kernel_rfl⟩
    · exact ⟨Try.prog.types[5]!, by kernel_rfl, by kernel_rfl⟩
    · exact ⟨Try.prog.types[9]!, by kernel_rfl, by kernel_rfl⟩
    · exact ⟨Try.prog.types[22]!, by kernel_rfl, by kernel_rfl⟩
    · exact ⟨Try.prog.types[25]!, by kernel_rfl, by kernel_rfl⟩
  ti := by
    intro p hp
    simp only [U, List.mem_cons, List.not_mem_nil, or_false] at hp
    rcases hp with rfl | rfl | rfl | rfl | rfl
    · exact ⟨Try.prog.types[3]!, by kernel_rfl, by kernel_rfl, by kernel_rfl, by kernel_rfl⟩
    · exact ⟨Try.prog.types[5]!, by kernel_rfl, by kernel_rfl, by kernel_rfl, by kernel_rfl⟩
    · exact ⟨Try.prog.types[9]!, by kernel_rfl, by kernel_rfl, by kernel_rfl, by kernel_rfl⟩
    · exact ⟨Try.prog.types[22]!, by kernel_rfl, by kernel_rfl, by kernel_rfl, by kernel_rfl⟩
    · exact ⟨Try.prog.types[25]!, by kernel_rfl, by kernel_rfl, by kernel_rfl, by kernel_rfl⟩
  bld := by
    intro p hp; cases hp
  mixed := by kernel_rfl

theorem r_digit_spec (x : Int) (h0 : 0 ≤ x) (h1 : x < 256) :
    CallsS Try.prog 66 [.int .u8 x] [] (fun r D => r = .int .i64 (dg x) ∧ D = [] ∧ (0 ≤ dg x ∧ dg x ≤ 99)) := by
  refine CallsS.enter hU Try.f66 _ [.tmp 2] 22 Try.func66 rfl (by decide) rfl rfl (by kernel_rfl) fun w0 W => ?_
  refine RunC.seq ?_
  refine RunC.region ?_
  refine RunR.sil hU [] 1 1 [0, 2] [(0, .int .u8 x), (2, .int .i64 0)] ((True) ∧ True) rfl (by kernel_rfl) ⟨trivial, trivial⟩ ?_
  refine RunR.done (by kernel_rfl) ?_
  refine kseq_n ?_
  refine RunC.seq ?_
  refine RunC.seq ?_
  refine RunC.region ?_
  refine RunR.sil hU [] 3 3 [0, 2, 5] [(0, .int .u8 x), (2, .int .i64 0), (5, .bool (decide (x ≥ 48)))] ((True) ∧ (True) ∧ (True) ∧ True) rfl (by kernel_rfl) ⟨trivial, trivial, trivial, trivial⟩ ?_
  refine RunR.env [0, 2, 5] [(0, .int .u8 x), (2, .int .i64 0), (5, .bool (decide (x ≥ 48)))] (by kernel_rfl) ?_
  by_cases h1 : x ≥ 48
  · skip
    refine RunR.enveq [(0, .int .u8 x), (2, .int .i64 0), (5, .bool true)] (by rw [decide_eq_true h1]; try rfl) ?_
    refine RunR.sil hU [] 3 6 [0, 2, 8] [(0, .int .u8 x), (2, .int .i64 0), (8, .bool (decide (x ≤ 57)))] ((True) ∧ (True) ∧ (True) ∧ True) rfl (by kernel_rfl) ⟨trivial, trivial, trivial, trivial⟩ ?_
    refine RunR.done (by kernel_rfl) ?_
    refine kseq_n ?_
    refine RunC.condp (x ≤ 57) (by kernel_rfl) (fun h2 => ?_) (fun h2 => ?_)
    · skip
      refine RunC.seq ?_
      refine RunC.region ?_
      refine RunR.sil hU [1, 2] 4 4 [0, 2] [(0, .int .u8 x), (2, .int .i64 (x - 48))] ((True) ∧ (0 ≤ (x - 48) ∧ (x - 48) < 256) ∧ (-9223372036854775808 ≤ (x - 48) ∧ (x - 48) < 9223372036854775808) ∧ (True) ∧ True) rfl (by kernel_rfl) ⟨trivial, (by omega), (by omega), trivial, trivial⟩ ?_
      refine RunR.done (by kernel_rfl) ?_
      refine kseq_n ?_
      refine RunC.ret ?_
      refine kseq_r ?_
      refine kret_r [.int .i64 (x - 48)] [] [] ⟨rfl, trivial⟩ (by kernel_rfl) rfl ⟨(by first | rfl | (unfold dg; simp only [retv]; congr 1; split <;> (try split) <;> omega)), (by first | rfl | (unfold dg; simp only [retv]; congr 1; split <;> (try split) <;> omega)), (by have := dg_cases x; omega)⟩
    · skip
      refine RunC.skip ?_
      refine kseq_n ?_
      refine RunC.seq ?_
      refine RunC.seq ?_
      refine RunC.region ?_
      refine RunR.sil hU [] 3 3 [0, 2, 14] [(0, .int .u8 x), (2, .int .i64 0), (14, .bool (decide (x ≥ 97)))] ((True) ∧ (True) ∧ (True) ∧ True) rfl (by kernel_rfl) ⟨trivial, trivial, trivial, trivial⟩ ?_
      refine RunR.env [0, 2, 14] [(0, .int .u8 x), (2, .int .i64 0), (14, .bool (decide (x ≥ 97)))] (by kernel_rfl) ?_
      by_cases h3 : x ≥ 97
      · skip
        refine RunR.enveq [(0, .int .u8 x), (2, .int .i64 0), (14, .bool true)] (by rw [decide_eq_true h3]; try rfl) ?_
        refine RunR.sil hU [] 3 6 [0, 2, 17] [(0, .int .u8 x), (2, .int .i64 0), (17, .bool (decide (x ≤ 102)))] ((True) ∧ (True) ∧ (True) ∧ True) rfl (by kernel_rfl) ⟨trivial, trivial, trivial, trivial⟩ ?_
        refine RunR.done (by kernel_rfl) ?_
        refine kseq_n ?_
        refine RunC.condp (x ≤ 102) (by kernel_rfl) (fun h4 => ?_) (fun h4 => ?_)
        · skip
          refine RunC.seq ?_
          refine RunC.region ?_
          refine RunR.sil hU [1, 2, 3] 5 5 [2] [(2, .int .i64 ((x - 97) + 10))] ((True) ∧ (0 ≤ (x - 97) ∧ (x - 97) < 256) ∧ (-9223372036854775808 ≤ (x - 97) ∧ (x - 97) < 9223372036854775808) ∧ (-9223372036854775808 ≤ ((x - 97) + 10) ∧ ((x - 97) + 10) < 9223372036854775808) ∧ (True) ∧ True) rfl (by kernel_rfl) ⟨trivial, (by omega), (by omega), (by omega), trivial, trivial⟩ ?_
          refine RunR.done (by kernel_rfl) ?_
          refine kseq_n ?_
          refine RunC.ret ?_
          refine kseq_r ?_
          refine kret_r [.int .i64 ((x - 97) + 10)] [] [] ⟨rfl, trivial⟩ (by kernel_rfl) rfl ⟨(by first | rfl | (unfold dg; simp only [retv]; congr 1; split <;> (try split) <;> omega)), (by first | rfl | (unfold dg; simp only [retv]; congr 1; split <;> (try split) <;> omega)), (by have := dg_cases x; omega)⟩
        · skip
          refine RunC.skip ?_
          refine kseq_n ?_
          refine RunC.seq ?_
          refine RunC.region ?_
          refine RunR.sil hU [] 1 1 [2] [(2, .int .i64 99)] ((True) ∧ True) rfl (by kernel_rfl) ⟨trivial, trivial⟩ ?_
          refine RunR.done (by kernel_rfl) ?_
          refine kseq_n ?_
          refine RunC.ret ?_
          refine kret_r [.int .i64 99] [] [] ⟨rfl, trivial⟩ (by kernel_rfl) rfl ⟨(by first | rfl | (unfold dg; simp only [retv]; congr 1; split <;> (try split) <;> omega)), (by first | rfl | (unfold dg; simp only [retv]; congr 1; split <;> (try split) <;> omega)), (by have := dg_cases x; omega)⟩
      · skip
        refine RunR.enveq [(0, .int .u8 x), (2, .int .i64 0), (14, .bool false)] (by rw [decide_eq_false h3]; try rfl) ?_
        refine RunR.sil hU [] 3 6 [0, 2, 17] [(0, .int .u8 x), (2, .int .i64 0), (17, .bool false)] ((True) ∧ True) rfl (by kernel_rfl) ⟨trivial, trivial⟩ ?_
        refine RunR.done (by kernel_rfl) ?_
        refine kseq_n ?_
        refine RunC.cond (b := false) (by kernel_rfl) (fun h => by cases h) (fun _ => ?_)
        refine RunC.skip ?_
        refine kseq_n ?_
        refine RunC.seq ?_
        refine RunC.region ?_
        refine RunR.sil hU [] 1 1 [2] [(2, .int .i64 99)] ((True) ∧ True) rfl (by kernel_rfl) ⟨trivial, trivial⟩ ?_
        refine RunR.done (by kernel_rfl) ?_
        refine kseq_n ?_
        refine RunC.ret ?_
        refine kret_r [.int .i64 99] [] [] ⟨rfl, trivial⟩ (by kernel_rfl) rfl ⟨(by first | rfl | (unfold dg; simp only [retv]; congr 1; split <;> (try split) <;> omega)), (by first | rfl | (unfold dg; simp only [retv]; congr 1; split <;> (try split) <;> omega)), (by have := dg_cases x; omega)⟩
  · skip
    refine RunR.enveq [(0, .int .u8 x), (2, .int .i64 0), (5, .bool false)] (by rw [decide_eq_false h1]; try rfl) ?_
    refine RunR.sil hU [] 3 6 [0, 2, 8] [(0, .int .u8 x), (2, .int .i64 0), (8, .bool false)] ((True) ∧ True) rfl (by kernel_rfl) ⟨trivial, trivial⟩ ?_
    refine RunR.done (by kernel_rfl) ?_
    refine kseq_n ?_
    refine RunC.cond (b := false) (by kernel_rfl) (fun h => by cases h) (fun _ => ?_)
    refine RunC.skip ?_
    refine kseq_n ?_
    refine RunC.seq ?_
    refine RunC.seq ?_
    refine RunC.region ?_
    refine RunR.sil hU [] 3 3 [0, 2, 14] [(0, .int .u8 x), (2, .int .i64 0), (14, .bool (decide (x ≥ 97)))] ((True) ∧ (True) ∧ (True) ∧ True) rfl (by kernel_rfl) ⟨trivial, trivial, trivial, trivial⟩ ?_
    refine RunR.env [0, 2, 14] [(0, .int .u8 x), (2, .int .i64 0), (14, .bool (decide (x ≥ 97)))] (by kernel_rfl) ?_
    by_cases h5 : x ≥ 97
    · skip
      refine RunR.enveq [(0, .int .u8 x), (2, .int .i64 0), (14, .bool true)] (by rw [decide_eq_true h5]; try rfl) ?_
      refine RunR.sil hU [] 3 6 [0, 2, 17] [(0, .int .u8 x), (2, .int .i64 0), (17, .bool (decide (x ≤ 102)))] ((True) ∧ (True) ∧ (True) ∧ True) rfl (by kernel_rfl) ⟨trivial, trivial, trivial, trivial⟩ ?_
      refine RunR.done (by kernel_rfl) ?_
      refine kseq_n ?_
      refine RunC.condp (x ≤ 102) (by kernel_rfl) (fun h6 => ?_) (fun h6 => ?_)
      · skip
        refine RunC.seq ?_
        refine RunC.region ?_
        refine RunR.sil hU [1, 2, 3] 5 5 [2] [(2, .int .i64 ((x - 97) + 10))] ((True) ∧ (0 ≤ (x - 97) ∧ (x - 97) < 256) ∧ (-9223372036854775808 ≤ (x - 97) ∧ (x - 97) < 9223372036854775808) ∧ (-9223372036854775808 ≤ ((x - 97) + 10) ∧ ((x - 97) + 10) < 9223372036854775808) ∧ (True) ∧ True) rfl (by kernel_rfl) ⟨trivial, (by omega), (by omega), (by omega), trivial, trivial⟩ ?_
        refine RunR.done (by kernel_rfl) ?_
        refine kseq_n ?_
        refine RunC.ret ?_
        refine kseq_r ?_
        refine kret_r [.int .i64 ((x - 97) + 10)] [] [] ⟨rfl, trivial⟩ (by kernel_rfl) rfl ⟨(by first | rfl | (unfold dg; simp only [retv]; congr 1; split <;> (try split) <;> omega)), (by first | rfl | (unfold dg; simp only [retv]; congr 1; split <;> (try split) <;> omega)), (by have := dg_cases x; omega)⟩
      · skip
        refine RunC.skip ?_
        refine kseq_n ?_
        refine RunC.seq ?_
        refine RunC.region ?_
        refine RunR.sil hU [] 1 1 [2] [(2, .int .i64 99)] ((True) ∧ True) rfl (by kernel_rfl) ⟨trivial, trivial⟩ ?_
        refine RunR.done (by kernel_rfl) ?_
        refine kseq_n ?_
        refine RunC.ret ?_
        refine kret_r [.int .i64 99] [] [] ⟨rfl, trivial⟩ (by kernel_rfl) rfl ⟨(by first | rfl | (unfold dg; simp only [retv]; congr 1; split <;> (try split) <;> omega)), (by first | rfl | (unfold dg; simp only [retv]; congr 1; split <;> (try split) <;> omega)), (by have := dg_cases x; omega)⟩
    · skip
      refine RunR.enveq [(0, .int .u8 x), (2, .int .i64 0), (14, .bool false)] (by rw [decide_eq_false h5]; try rfl) ?_
      refine RunR.sil hU [] 3 6 [0, 2, 17] [(0, .int .u8 x), (2, .int .i64 0), (17, .bool false)] ((True) ∧ True) rfl (by kernel_rfl) ⟨trivial, trivial⟩ ?_
      refine RunR.done (by kernel_rfl) ?_
      refine kseq_n ?_
      refine RunC.cond (b := false) (by kernel_rfl) (fun h => by cases h) (fun _ => ?_)
      refine RunC.skip ?_
      refine kseq_n ?_
      refine RunC.seq ?_
      refine RunC.region ?_
      refine RunR.sil hU [] 1 1 [2] [(2, .int .i64 99)] ((True) ∧ True) rfl (by kernel_rfl) ⟨trivial, trivial⟩ ?_
      refine RunR.done (by kernel_rfl) ?_
      refine kseq_n ?_
      refine RunC.ret ?_
      refine kret_r [.int .i64 99] [] [] ⟨rfl, trivial⟩ (by kernel_rfl) rfl ⟨(by first | rfl | (unfold dg; simp only [retv]; congr 1; split <;> (try split) <;> omega)), (by first | rfl | (unfold dg; simp only [retv]; congr 1; split <;> (try split) <;> omega)), (by have := dg_cases x; omega)⟩

theorem r_Unhex_spec (s : ByteArray) (hn : (s : ByteArray).size ≤ 140737488351232) :
    CallsS Try.prog 45 [.string s] [] (fun r D => ∃ (A : Option Addr) (c : Nat) (zs : List Int) (ok : Bool), r = .tuple #[.slice A zs.length c, .bool ok] ∧ D = [row 5 1 (.slice A zs.length c) zs.length (nums .u8 zs)] ∧ ((if ok = true then some zs else none) = unhexl (sb s)) ∧ (ok = false → zs = []) ∧ (In .u8 zs) ∧ (2 * zs.length ≤ (s : ByteArray).size) ∧ (zs.length ≤ c) ∧ (0 < zs.length → Option.isSome A = true)) := by
  refine CallsS.enter hU Try.f45 _ [.tmp 2, .tmp 3] 43 Try.func45 rfl (by decide) rfl rfl (by kernel_rfl) fun w0 W => ?_
  have hlen := sb_len s
  refine RunC.seq ?_
  refine RunC.region ?_
  refine RunR.sil hU [] 2 2 [0, 2, 3] [(0, .string s), (2, .slice none 0 0), (3, .bool false)] ((True) ∧ (True) ∧ True) rfl (by kernel_rfl) ⟨trivial, trivial, trivial⟩ ?_
  refine RunR.done (by kernel_rfl) ?_
  refine kseq_n ?_
  refine RunC.seq ?_
  refine RunC.region ?_
  refine RunR.sil hU [] 1 1 [0, 2, 3, 4] [(0, .string s), (2, .slice none 0 0), (3, .bool false), (4, .slice none 0 0)] ((True) ∧ True) rfl (by kernel_rfl) ⟨trivial, trivial⟩ ?_
  refine RunR.done (by kernel_rfl) ?_
  refine kseq_n ?_
  refine RunC.seq ?_
  refine RunC.seq ?_
  refine RunC.region ?_
  refine RunR.sil hU [] 1 1 [0, 2, 3, 4, 5] [(0, .string s), (2, .slice none 0 0), (3, .bool false), (4, .slice none 0 0), (5, .int .i64 0)] ((True) ∧ True) rfl (by kernel_rfl) ⟨trivial, trivial⟩ ?_
  refine RunR.done (by kernel_rfl) ?_
  refine kseq_n ?_
  refine RunC.block ?_
  refine RunC.turn ([row 5 1 (.slice none 0 0) 0 (nums .u8 ([] : List Int))]) (fun _ _ w hs => hs.nil_row 5 1) ?_
  refine RunC.env [0, 4, 5] [(0, .string s), (4, .slice none 0 0), (5, .int .i64 0)] (by kernel_rfl) ?_
  refine RunC.only [0] [row 5 1 (.slice none 0 0) 0 (nums .u8 ([] : List Int))] (by kernel_rfl) ?_
  refine RunC.loop (σ := Nat) (fun n_ t_ D_ => ∃ (i : Int) (zs : List Int) (A : Option Addr) (c : Nat), (0 ≤ i) ∧ (i % 2 = 0) ∧ (i ≤ (s : ByteArray).size + 1) ∧ (unhexl (sb s) = (unhexl ((sb s).drop i.toNat)).map (zs ++ ·)) ∧ (2 * zs.length = i.toNat) ∧ (In .u8 zs) ∧ (zs.length ≤ c) ∧ (0 < zs.length → Option.isSome A = true) ∧ n_ = (((s : ByteArray).size + 1 - i).toNat : Nat) ∧ t_ = [(0, .string s), (4, .slice A zs.length c), (5, .int .i64 i)] ∧ D_ = [row 5 1 (.slice A zs.length c) zs.length (nums .u8 zs)]) id _ ⟨0, ([] : List Int), none, 0, (by first | assumption | omega | (simp only [List.length_append, List.length_cons, List.length_nil, List.length_set, List.length_replicate, List.length_take, List.length_drop]; omega) | (simp only [fits] at *; omega) | (simp only [List.length_append, List.length_cons, List.length_nil, List.length_set, List.length_replicate, List.length_take, List.length_drop] at *; omega) | (simp; done) | decide), (by first | assumption | omega | (simp only [List.length_append, List.length_cons, List.length_nil, List.length_set, List.length_replicate, List.length_take, List.length_drop]; omega) | (simp only [fits] at *; omega) | (simp only [List.length_append, List.length_cons, List.length_nil, List.length_set, List.length_replicate, List.length_take, List.length_drop] at *; omega) | (simp; done) | decide), (by first | assumption | omega | (simp only [List.length_append, List.length_cons, List.length_nil, List.length_set, List.length_replicate, List.length_take, List.length_drop]; omega) | (simp only [fits] at *; omega) | (simp only [List.length_append, List.length_cons, List.length_nil, List.length_set, List.length_replicate, List.length_take, List.length_drop] at *; omega) | (simp; done) | decide), (by simp), (by rfl), (by exact In.nil _), (by exact Nat.le_refl _), (by intro h; simp at h), rfl, rfl, rfl⟩ ?_
  rintro n_ _ _ ⟨i, zs, A, c, hi, hev, hin, hz, hzl, hin8, hc, hA, rfl, rfl, rfl⟩
  refine RunC.seq ?_
  refine RunC.seq ?_
  refine RunC.region ?_
  refine RunR.sil hU [1] 5 5 [0, 4, 5, 12] [(0, .string s), (4, .slice A zs.length c), (5, .int .i64 i), (12, .bool (decide ((i + 1) < ((s : ByteArray).size : Int))))] ((True) ∧ (-9223372036854775808 ≤ (i + 1) ∧ (i + 1) < 9223372036854775808) ∧ (True) ∧ (True) ∧ (True) ∧ True) rfl (by kernel_rfl) ⟨trivial, (by omega), trivial, trivial, trivial, trivial⟩ ?_
  refine RunR.done (by kernel_rfl) ?_
  refine kseq_n ?_
  refine RunC.condp ((i + 1) < ((s : ByteArray).size : Int)) (by kernel_rfl) (fun h1 => ?_) (fun h1 => ?_)
  · skip
    refine RunC.skip ?_
    refine kseq_n ?_
    refine RunC.seq ?_
    refine RunC.block ?_
    refine RunC.seq ?_
    refine RunC.region ?_
    have hb2 : 0 ≤ (sb s).getD (i).toNat 0 ∧ (sb s).getD (i).toNat 0 < 256 := (In.sb _).at_ _
    refine RunR.sil hU [] 3 3 [0, 4, 5, 17] [(0, .string s), (4, .slice A zs.length c), (5, .int .i64 i), (17, .int .u8 ((sb s).getD (i).toNat 0))] ((True) ∧ (True) ∧ (0 ≤ i ∧ i < (s : ByteArray).size) ∧ True) rfl (by kernel_rfl) ⟨trivial, trivial, (by omega), trivial⟩ ?_
    refine RunR.step (dst := some 18) (op := .call { callee := .value (.func 66), args := #[.tmp 17], argTypes := #[5] }) (by kernel_rfl) (Step.call 66 [.int .u8 ((sb s).getD (i).toNat 0)] (by kernel_rfl) (by kernel_rfl) [] [] [row 5 1 (.slice A zs.length c) zs.length (nums .u8 zs)] (r_digit_spec ((sb s).getD (i).toNat 0) (by first | assumption | omega | (simp only [List.length_append, List.length_cons, List.length_nil, List.length_set, List.length_replicate, List.length_take, List.length_drop]; omega) | (simp only [fits] at *; omega) | (simp only [List.length_append, List.length_cons, List.length_nil, List.length_set, List.length_replicate, List.length_take, List.length_drop] at *; omega) | (simp; done) | decide) (by first | assumption | omega | (simp only [List.length_append, List.length_cons, List.length_nil, List.length_set, List.length_replicate, List.length_take, List.length_drop]; omega) | (simp only [fits] at *; omega) | (simp only [List.length_append, List.length_cons, List.length_nil, List.length_set, List.length_replicate, List.length_take, List.length_drop] at *; omega) | (simp; done) | decide)) [] (by kernel_rfl) (Lend.nil _) ?_)
    rintro _ _ ⟨rfl, rfl, hp3⟩
    refine RunR.sil hU [] 1 5 [0, 4, 5, 6] [(0, .string s), (4, .slice A zs.length c), (5, .int .i64 i), (6, .int .i64 (dg ((sb s).getD (i).toNat 0)))] ((True) ∧ True) rfl (by kernel_rfl) ⟨trivial, trivial⟩ ?_
    refine RunR.done (by kernel_rfl) ?_
    refine kseq_n ?_
    refine RunC.seq ?_
    refine RunC.region ?_
    have hb4 : 0 ≤ (sb s).getD (i + 1).toNat 0 ∧ (sb s).getD (i + 1).toNat 0 < 256 := (In.sb _).at_ _
    refine RunR.sil hU [2] 4 4 [0, 4, 5, 6, 22] [(0, .string s), (4, .slice A zs.length c), (5, .int .i64 i), (6, .int .i64 (dg ((sb s).getD (i).toNat 0))), (22, .int .u8 ((sb s).getD (i + 1).toNat 0))] ((True) ∧ (True) ∧ (-9223372036854775808 ≤ (i + 1) ∧ (i + 1) < 9223372036854775808) ∧ (0 ≤ (i + 1) ∧ (i + 1) < (s : ByteArray).size) ∧ True) rfl (by kernel_rfl) ⟨trivial, trivial, (by omega), (by omega), trivial⟩ ?_
    refine RunR.step (dst := some 23) (op := .call { callee := .value (.func 66), args := #[.tmp 22], argTypes := #[5] }) (by kernel_rfl) (Step.call 66 [.int .u8 ((sb s).getD (i + 1).toNat 0)] (by kernel_rfl) (by kernel_rfl) [] [] [row 5 1 (.slice A zs.length c) zs.length (nums .u8 zs)] (r_digit_spec ((sb s).getD (i + 1).toNat 0) (by first | assumption | omega | (simp only [List.length_append, List.length_cons, List.length_nil, List.length_set, List.length_replicate, List.length_take, List.length_drop]; omega) | (simp only [fits] at *; omega) | (simp only [List.length_append, List.length_cons, List.length_nil, List.length_set, List.length_replicate, List.length_take, List.length_drop] at *; omega) | (simp; done) | decide) (by first | assumption | omega | (simp only [List.length_append, List.length_cons, List.length_nil, List.length_set, List.length_replicate, List.length_take, List.length_drop]; omega) | (simp only [fits] at *; omega) | (simp only [List.length_append, List.length_cons, List.length_nil, List.length_set, List.length_replicate, List.length_take, List.length_drop] at *; omega) | (simp; done) | decide)) [] (by kernel_rfl) (Lend.nil _) ?_)
    rintro _ _ ⟨rfl, rfl, hp5⟩
    refine RunR.sil hU [] 1 6 [0, 4, 5, 6, 7] [(0, .string s), (4, .slice A zs.length c), (5, .int .i64 i), (6, .int .i64 (dg ((sb s).getD (i).toNat 0))), (7, .int .i64 (dg ((sb s).getD (i + 1).toNat 0)))] ((True) ∧ True) rfl (by kernel_rfl) ⟨trivial, trivial⟩ ?_
    refine RunR.done (by kernel_rfl) ?_
    refine kseq_n ?_
    refine RunC.seq ?_
    refine RunC.seq ?_
    refine RunC.region ?_
    refine RunR.sil hU [] 3 3 [0, 4, 5, 6, 7, 26] [(0, .string s), (4, .slice A zs.length c), (5, .int .i64 i), (6, .int .i64 (dg ((sb s).getD (i).toNat 0))), (7, .int .i64 (dg ((sb s).getD (i + 1).toNat 0))), (26, .bool (decide ((dg ((sb s).getD (i).toNat 0)) > 15)))] ((True) ∧ (True) ∧ (True) ∧ True) rfl (by kernel_rfl) ⟨trivial, trivial, trivial, trivial⟩ ?_
    refine RunR.env [0, 4, 5, 6, 7, 26] [(0, .string s), (4, .slice A zs.length c), (5, .int .i64 i), (6, .int .i64 (dg ((sb s).getD (i).toNat 0))), (7, .int .i64 (dg ((sb s).getD (i + 1).toNat 0))), (26, .bool (decide ((dg ((sb s).getD (i).toNat 0)) > 15)))] (by kernel_rfl) ?_
    by_cases h6 : (dg ((sb s).getD (i).toNat 0)) > 15
    · skip
      refine RunR.enveq [(0, .string s), (4, .slice A zs.length c), (5, .int .i64 i), (6, .int .i64 (dg ((sb s).getD (i).toNat 0))), (7, .int .i64 (dg ((sb s).getD (i + 1).toNat 0))), (26, .bool true)] (by rw [decide_eq_true h6]; try rfl) ?_
      refine RunR.sil hU [] 3 6 [0, 4, 5, 6, 7, 29] [(0, .string s), (4, .slice A zs.length c), (5, .int .i64 i), (6, .int .i64 (dg ((sb s).getD (i).toNat 0))), (7, .int .i64 (dg ((sb s).getD (i + 1).toNat 0))), (29, .bool true)] ((True) ∧ True) rfl (by kernel_rfl) ⟨trivial, trivial⟩ ?_
      refine RunR.done (by kernel_rfl) ?_
      refine kseq_n ?_
      refine RunC.cond (b := true) (by kernel_rfl) (fun _ => ?_) (fun h => by cases h)
      refine RunC.seq ?_
      refine RunC.region ?_
      refine RunR.sil hU [] 2 2 [0, 2, 3, 4, 5, 6, 7] [(0, .string s), (2, .slice none 0 0), (3, .bool false), (4, .slice A zs.length c), (5, .int .i64 i), (6, .int .i64 (dg ((sb s).getD (i).toNat 0))), (7, .int .i64 (dg ((sb s).getD (i + 1).toNat 0)))] ((True) ∧ (True) ∧ True) rfl (by kernel_rfl) ⟨trivial, trivial, trivial⟩ ?_
      refine RunR.done (by kernel_rfl) ?_
      refine kseq_n ?_
      refine RunC.ret ?_
      refine kseq_r ?_
      refine kblock_r ?_
      refine kseq_r ?_
      refine kloop_r ?_
      refine kblock_r ?_
      refine kseq_r ?_
      refine kret_rt ([row 5 1 (.slice none 0 0) 0 (nums .u8 ([] : List Int)), row 5 1 (.slice A zs.length c) zs.length (nums .u8 zs)]) (fun w0 W w hs => hs.nil_row 5 1) [.slice none 0 0, .bool false] [0] [row 5 1 (.slice none 0 0) 0 (nums .u8 ([] : List Int))] ⟨rfl, rfl, trivial⟩ (by kernel_rfl) rfl ⟨none, 0, ([] : List Int), false, rfl, rfl, (by rw [unhex_stop (i := i.toNat) (by omega) hz (by first | omega | (simp only [show (i + 1).toNat = i.toNat + 1 by omega] at *; omega))]; rfl), (by intro _; rfl), (by exact In.nil _), (by simp), (by exact Nat.le_refl _), (by intro h; simp at h)⟩
    · skip
      refine RunR.enveq [(0, .string s), (4, .slice A zs.length c), (5, .int .i64 i), (6, .int .i64 (dg ((sb s).getD (i).toNat 0))), (7, .int .i64 (dg ((sb s).getD (i + 1).toNat 0))), (26, .bool false)] (by rw [decide_eq_false h6]; try rfl) ?_
      refine RunR.sil hU [] 3 6 [0, 4, 5, 6, 7, 29] [(0, .string s), (4, .slice A zs.length c), (5, .int .i64 i), (6, .int .i64 (dg ((sb s).getD (i).toNat 0))), (7, .int .i64 (dg ((sb s).getD (i + 1).toNat 0))), (29, .bool (decide ((dg ((sb s).getD (i + 1).toNat 0)) > 15)))] ((True) ∧ (True) ∧ (True) ∧ True) rfl (by kernel_rfl) ⟨trivial, trivial, trivial, trivial⟩ ?_
      refine RunR.done (by kernel_rfl) ?_
      refine kseq_n ?_
      refine RunC.condp ((dg ((sb s).getD (i + 1).toNat 0)) > 15) (by kernel_rfl) (fun h7 => ?_) (fun h7 => ?_)
      · skip
        refine RunC.seq ?_
        refine RunC.region ?_
        refine RunR.sil hU [] 2 2 [0, 2, 3, 4, 5, 6, 7] [(0, .string s), (2, .slice none 0 0), (3, .bool false), (4, .slice A zs.length c), (5, .int .i64 i), (6, .int .i64 (dg ((sb s).getD (i).toNat 0))), (7, .int .i64 (dg ((sb s).getD (i + 1).toNat 0)))] ((True) ∧ (True) ∧ True) rfl (by kernel_rfl) ⟨trivial, trivial, trivial⟩ ?_
        refine RunR.done (by kernel_rfl) ?_
        refine kseq_n ?_
        refine RunC.ret ?_
        refine kseq_r ?_
        refine kblock_r ?_
        refine kseq_r ?_
        refine kloop_r ?_
        refine kblock_r ?_
        refine kseq_r ?_
        refine kret_rt ([row 5 1 (.slice none 0 0) 0 (nums .u8 ([] : List Int)), row 5 1 (.slice A zs.length c) zs.length (nums .u8 zs)]) (fun w0 W w hs => hs.nil_row 5 1) [.slice none 0 0, .bool false] [0] [row 5 1 (.slice none 0 0) 0 (nums .u8 ([] : List Int))] ⟨rfl, rfl, trivial⟩ (by kernel_rfl) rfl ⟨none, 0, ([] : List Int), false, rfl, rfl, (by rw [unhex_stop (i := i.toNat) (by omega) hz (by first | omega | (simp only [show (i + 1).toNat = i.toNat + 1 by omega] at *; omega))]; rfl), (by intro _; rfl), (by exact In.nil _), (by simp), (by exact Nat.le_refl _), (by intro h; simp at h)⟩
      · skip
        refine RunC.skip ?_
        refine kseq_n ?_
        refine RunC.region ?_
        refine RunR.sil hU [2, 4, 5] 6 6 [0, 4, 5, 30, 35] [(0, .string s), (4, .slice A zs.length c), (5, .int .i64 i), (30, .slice A zs.length c), (35, .int .u8 ((16 * (dg ((sb s).getD (i).toNat 0))) + (dg ((sb s).getD (i + 1).toNat 0))))] ((True) ∧ (True) ∧ (-9223372036854775808 ≤ (16 * (dg ((sb s).getD (i).toNat 0))) ∧ (16 * (dg ((sb s).getD (i).toNat 0))) < 9223372036854775808) ∧ (True) ∧ (-9223372036854775808 ≤ ((16 * (dg ((sb s).getD (i).toNat 0))) + (dg ((sb s).getD (i + 1).toNat 0))) ∧ ((16 * (dg ((sb s).getD (i).toNat 0))) + (dg ((sb s).getD (i + 1).toNat 0))) < 9223372036854775808) ∧ (0 ≤ ((16 * (dg ((sb s).getD (i).toNat 0))) + (dg ((sb s).getD (i + 1).toNat 0))) ∧ ((16 * (dg ((sb s).getD (i).toNat 0))) + (dg ((sb s).getD (i + 1).toNat 0))) < 256) ∧ True) rfl (by kernel_rfl) ⟨trivial, trivial, (by omega), trivial, (by omega), (by omega), trivial⟩ ?_
        refine RunR.step (dst := some 36) (op := .buildSlice 22 1 #[(0, .tmp 35)]) (by kernel_rfl) (Step.lit_nums hU 5 1 .u8 (.int .u8 0) ([(16 * (dg ((sb s).getD (i).toNat 0))) + (dg ((sb s).getD (i + 1).toNat 0))] : List Int) rfl rfl (by kernel_rfl) rfl rfl (by kernel_rfl) (fun b8 => ?_))
        have hl9 : (([(16 * (dg ((sb s).getD (i).toNat 0))) + (dg ((sb s).getD (i + 1).toNat 0))] : List Int)).length = 1 := rfl
        have hl14 : (([(16 * (dg ((sb s).getD (i).toNat 0))) + (dg ((sb s).getD (i + 1).toNat 0))] : List Int)).length = 1 := rfl
        refine RunR.step (dst := some 37) (op := .call { callee := .builtin .append, args := #[.tmp 30, .tmp 36], argTypes := #[22, 22] }) (by kernel_rfl) (Step.append_nums hU 5 1 (.int .u8 0) .u8 1 0 A zs.length c zs (some ⟨b8, 0, none⟩) 1 1 (row 5 1 (.slice (some ⟨b8, 0, none⟩) 1 1) 1 (nums .u8 ([(16 * (dg ((sb s).getD (i).toNat 0))) + (dg ((sb s).getD (i + 1).toNat 0))] : List Int))) ([(16 * (dg ((sb s).getD (i).toNat 0))) + (dg ((sb s).getD (i + 1).toNat 0))] : List Int) rfl rfl rfl (by kernel_rfl) (by kernel_rfl) (by kernel_rfl) (by kernel_rfl) (tells_row _ _ _ _ _ _) (by first | rfl | omega | (simp; omega)) (by first | rfl | omega | (simp; omega)) (by omega) (by omega) (by kernel_rfl) (fun Aq10 cq11 hc12 hA13 => ?_))
        have hl15 : (zs ++ ([(16 * (dg ((sb s).getD (i).toNat 0))) + (dg ((sb s).getD (i + 1).toNat 0))] : List Int)).length = zs.length + ([(16 * (dg ((sb s).getD (i).toNat 0))) + (dg ((sb s).getD (i + 1).toNat 0))] : List Int).length := List.length_append
        simp only [List.length_cons, List.length_nil] at hl15
        refine RunR.sil hU [] 1 9 [0, 4, 5] [(0, .string s), (4, .slice Aq10 ((zs ++ ([(16 * (dg ((sb s).getD (i).toNat 0))) + (dg ((sb s).getD (i + 1).toNat 0))] : List Int)).length) cq11), (5, .int .i64 i)] ((True) ∧ True) rfl (by kernel_rfl) ⟨trivial, trivial⟩ ?_
        refine RunR.done (by kernel_rfl) ?_
        refine kblock_n ?_
        refine kseq_n ?_
        refine RunC.region ?_
        refine RunR.sil hU [1] 3 3 [0, 4, 5] [(0, .string s), (4, .slice Aq10 ((zs ++ ([(16 * (dg ((sb s).getD (i).toNat 0))) + (dg ((sb s).getD (i + 1).toNat 0))] : List Int)).length) cq11), (5, .int .i64 (i + 2))] ((True) ∧ (-9223372036854775808 ≤ (i + 2) ∧ (i + 2) < 9223372036854775808) ∧ (True) ∧ True) rfl (by kernel_rfl) ⟨trivial, (by omega), trivial, trivial⟩ ?_
        refine RunR.done (by kernel_rfl) ?_
        refine kloop_n _ [0, 4, 5] [0] [(0, .string s), (4, .slice Aq10 ((zs ++ ([(16 * (dg ((sb s).getD (i).toNat 0))) + (dg ((sb s).getD (i + 1).toNat 0))] : List Int)).length) cq11), (5, .int .i64 (i + 2))] [row 5 1 (.slice Aq10 ((zs ++ ([(16 * (dg ((sb s).getD (i).toNat 0))) + (dg ((sb s).getD (i + 1).toNat 0))] : List Int)).length) cq11) ((zs ++ ([(16 * (dg ((sb s).getD (i).toNat 0))) + (dg ((sb s).getD (i + 1).toNat 0))] : List Int)).length) (nums .u8 (zs ++ ([(16 * (dg ((sb s).getD (i).toNat 0))) + (dg ((sb s).getD (i + 1).toNat 0))] : List Int)))] (by kernel_rfl) (by kernel_rfl) ?_ ⟨(i + 2), (zs ++ ([(16 * (dg ((sb s).getD (i).toNat 0))) + (dg ((sb s).getD (i + 1).toNat 0))] : List Int)), Aq10, cq11, (by first | assumption | omega | (simp only [List.length_append, List.length_cons, List.length_nil, List.length_set, List.length_replicate, List.length_take, List.length_drop]; omega) | (simp only [fits] at *; omega) | (simp only [List.length_append, List.length_cons, List.length_nil, List.length_set, List.length_replicate, List.length_take, List.length_drop] at *; omega) | (simp; done) | decide), (by first | assumption | omega | (simp only [List.length_append, List.length_cons, List.length_nil, List.length_set, List.length_replicate, List.length_take, List.length_drop]; omega) | (simp only [fits] at *; omega) | (simp only [List.length_append, List.length_cons, List.length_nil, List.length_set, List.length_replicate, List.length_take, List.length_drop] at *; omega) | (simp; done) | decide), (by first | assumption | omega | (simp only [List.length_append, List.length_cons, List.length_nil, List.length_set, List.length_replicate, List.length_take, List.length_drop]; omega) | (simp only [fits] at *; omega) | (simp only [List.length_append, List.length_cons, List.length_nil, List.length_set, List.length_replicate, List.length_take, List.length_drop] at *; omega) | (simp; done) | decide), (by rw [show (i + 2).toNat = i.toNat + 2 by omega, show (i + 1).toNat = i.toNat + 1 by omega]; exact unhex_go (by omega) hz (by omega) (by simp only [show (i + 1).toNat = i.toNat + 1 by omega] at *; omega)), (by rw [List.length_append]; simp only [List.length_cons, List.length_nil]; omega), (by exact hin8.append (In.cons (by simp only [fits]; omega) (In.nil _))), (by first | assumption | omega | (simp only [List.length_append, List.length_cons, List.length_nil, List.length_set, List.length_replicate, List.length_take, List.length_drop]; omega) | (simp only [fits] at *; omega) | (simp only [List.length_append, List.length_cons, List.length_nil, List.length_set, List.length_replicate, List.length_take, List.length_drop] at *; omega) | (simp; done) | decide), (fun h => hA13 (by first | exact h | (simp at h ⊢; omega))), rfl, (by first | rfl | simp only [List.length_set]), (by first | rfl | simp only [List.length_set])⟩
        show (((s : ByteArray).size + 1 - (i + 2)).toNat : Nat) < (((s : ByteArray).size + 1 - i).toNat : Nat)
        omega
  · skip
    refine RunC.exit ?_
    refine kseq_e ?_
    refine kloop_e ?_
    refine kblock_e ?_
    refine kseq_n ?_
    refine RunC.seq ?_
    refine RunC.seq ?_
    refine RunC.region ?_
    refine RunR.sil hU [2] 4 4 [4, 41] [(4, .slice A zs.length c), (41, .bool (!decide ((((s : ByteArray).size : Int) % (2 : Int)) = 0)))] ((True) ∧ (True) ∧ (0 ≤ ((s : ByteArray).size : Int) ∧ 0 < (2 : Int)) ∧ (True) ∧ True) rfl (by kernel_rfl) ⟨trivial, trivial, (by omega), trivial, trivial⟩ ?_
    refine RunR.done (by kernel_rfl) ?_
    refine kseq_n ?_
    refine RunC.condn ((((s : ByteArray).size : Int) % (2 : Int)) = 0) (by kernel_rfl) (fun h16 => ?_) (fun h16 => ?_)
    · skip
      refine RunC.seq ?_
      refine RunC.region ?_
      refine RunR.sil hU [] 2 2 [2, 3, 4] [(2, .slice none 0 0), (3, .bool false), (4, .slice A zs.length c)] ((True) ∧ (True) ∧ True) rfl (by kernel_rfl) ⟨trivial, trivial, trivial⟩ ?_
      refine RunR.done (by kernel_rfl) ?_
      refine kseq_n ?_
      refine RunC.ret ?_
      refine kseq_r ?_
      refine kret_rt ([row 5 1 (.slice none 0 0) 0 (nums .u8 ([] : List Int)), row 5 1 (.slice A zs.length c) zs.length (nums .u8 zs)]) (fun w0 W w hs => hs.nil_row 5 1) [.slice none 0 0, .bool false] [0] [row 5 1 (.slice none 0 0) 0 (nums .u8 ([] : List Int))] ⟨rfl, rfl, trivial⟩ (by kernel_rfl) rfl ⟨none, 0, ([] : List Int), false, rfl, rfl, (by rw [unhexl_odd (by omega)]; rfl), (by intro _; rfl), (by exact In.nil _), (by simp), (by exact Nat.le_refl _), (by intro h; simp at h)⟩
    · skip
      refine RunC.skip ?_
      refine kseq_n ?_
      refine RunC.seq ?_
      refine RunC.region ?_
      refine RunR.sil hU [] 3 3 [2, 3] [(2, .slice A zs.length c), (3, .bool true)] ((True) ∧ (True) ∧ (True) ∧ True) rfl (by kernel_rfl) ⟨trivial, trivial, trivial, trivial⟩ ?_
      refine RunR.done (by kernel_rfl) ?_
      refine kseq_n ?_
      refine RunC.ret ?_
      refine kret_r [.slice A zs.length c, .bool true] [0] [row 5 1 (.slice A zs.length c) zs.length (nums .u8 zs)] ⟨rfl, rfl, trivial⟩ (by kernel_rfl) rfl ⟨A, c, zs, true, rfl, rfl, (by exact (unhex_end (by omega) hz).symm), (by intro h; cases h), (by exact hin8), (by omega), (by exact hc), (by exact hA)⟩

theorem l5_awake_spec  :
    CallsS Try.prog 27 [] [] (fun r D => r = .bool true ∧ D = []) := by
  refine CallsS.enter hU Try.f27 _ [.tmp 0] 57 Try.func27 rfl (by decide) rfl rfl (by kernel_rfl) fun w0 W => ?_
  refine RunC.seq ?_
  refine RunC.region ?_
  refine RunR.sil hU [] 1 1 [0] [(0, .bool false)] ((True) ∧ True) rfl (by kernel_rfl) ⟨trivial, trivial⟩ ?_
  refine RunR.done (by kernel_rfl) ?_
  refine kseq_n ?_
  refine RunC.seq ?_
  refine RunC.region ?_
  refine RunR.step (dst := some 8) (op := .call { callee := .value (.func 45), args := #[.const (.string ⟨#[56, 53, 100, 54, 98, 101, 55, 56, 53, 55, 53, 53, 54, 100, 51, 51, 55, 102, 52, 52, 53, 50, 102, 101, 52, 50, 100, 53, 48, 54, 97, 56, 48, 49, 48, 51, 56, 48, 56, 97, 102, 98, 48, 100, 98, 50, 102, 100, 52, 97, 98, 102, 102, 54, 97, 102, 52, 49, 52, 57, 102, 53, 49, 98]⟩)], argTypes := #[9] }) (by kernel_rfl) (Step.call 45 [.string ⟨#[56, 53, 100, 54, 98, 101, 55, 56, 53, 55, 53, 53, 54, 100, 51, 51, 55, 102, 52, 52, 53, 50, 102, 101, 52, 50, 100, 53, 48, 54, 97, 56, 48, 49, 48, 51, 56, 48, 56, 97, 102, 98, 48, 100, 98, 50, 102, 100, 52, 97, 98, 102, 102, 54, 97, 102, 52, 49, 52, 57, 102, 53, 49, 98]⟩] (by kernel_rfl) (by kernel_rfl) [] [] [] (r_Unhex_spec ⟨#[56, 53, 100, 54, 98, 101, 55, 56, 53, 55, 53, 53, 54, 100, 51, 51, 55, 102, 52, 52, 53, 50, 102, 101, 52, 50, 100, 53, 48, 54, 97, 56, 48, 49, 48, 51, 56, 48, 56, 97, 102, 98, 48, 100, 98, 50, 102, 100, 52, 97, 98, 102, 102, 54, 97, 102, 52, 49, 52, 57, 102, 53, 49, 98]⟩ (by first | assumption | omega | (simp only [List.length_append, List.length_cons, List.length_nil, List.length_set, List.length_replicate, List.length_take, List.length_drop]; omega) | (simp only [fits] at *; omega) | (simp only [List.length_append, List.length_cons, List.length_nil, List.length_set, List.length_replicate, List.length_take, List.length_drop] at *; omega) | (simp; done) | decide)) [] (by kernel_rfl) (Lend.nil _) ?_)
  rintro _ _ ⟨Aq1, cq2, zs3, ok4, rfl, rfl, hp5, hp6, hp7, hp8, hp9, hp10⟩
  refine RunR.sil hU [] 5 6 [0, 1] [(0, .bool false), (1, .slice Aq1 zs3.length cq2)] ((True) ∧ (True) ∧ (True) ∧ (True) ∧ (True) ∧ True) rfl (by kernel_rfl) ⟨trivial, trivial, trivial, trivial, trivial, trivial⟩ ?_
  refine RunR.done (by kernel_rfl) ?_
  refine kseq_n ?_
  refine RunC.seq ?_
  refine RunC.region ?_
  refine RunR.sil hU [] 1 1 [0, 12] [(0, .bool false), (12, .slice Aq1 zs3.length cq2)] ((True) ∧ True) rfl (by kernel_rfl) ⟨trivial, trivial⟩ ?_
  refine RunR.step (dst := some 13) (op := .buildSlice 22 34 #[(0, .const (.int .u8 67)), (1, .const (.int .u8 114)), (2, .const (.int .u8 121)), (3, .const (.int .u8 112)), (4, .const (.int .u8 116)), (5, .const (.int .u8 111)), (6, .const (.int .u8 103)), (7, .const (.int .u8 114)), (8, .const (.int .u8 97)), (9, .const (.int .u8 112)), (10, .const (.int .u8 104)), (11, .const (.int .u8 105)), (12, .const (.int .u8 99)), (13, .const (.int .u8 32)), (14, .const (.int .u8 70)), (15, .const (.int .u8 111)), (16, .const (.int .u8 114)), (17, .const (.int .u8 117)), (18, .const (.int .u8 109)), (19, .const (.int .u8 32)), (20, .const (.int .u8 82)), (21, .const (.int .u8 101)), (22, .const (.int .u8 115)), (23, .const (.int .u8 101)), (24, .const (.int .u8 97)), (25, .const (.int .u8 114)), (26, .const (.int .u8 99)), (27, .const (.int .u8 104)), (28, .const (.int .u8 32)), (29, .const (.int .u8 71)), (30, .const (.int .u8 114)), (31, .const (.int .u8 111)), (32, .const (.int .u8 117)), (33, .const (.int .u8 112))]) (by kernel_rfl) (Step.lit_nums hU 5 1 .u8 (.int .u8 0) ([67, 114, 121, 112, 116, 111, 103, 114, 97, 112, 104, 105, 99, 32, 70, 111, 114, 117, 109, 32, 82, 101, 115, 101, 97, 114, 99, 104, 32, 71, 114, 111, 117, 112] : List Int) rfl rfl (by kernel_rfl) rfl rfl (by kernel_rfl) (fun b11 => ?_))
  have hl12 : (([67, 114, 121, 112, 116, 111, 103, 114, 97, 112, 104, 105, 99, 32, 70, 111, 114, 117, 109, 32, 82, 101, 115, 101, 97, 114, 99, 104, 32, 71, 114, 111, 117, 112] : List Int)).length = 34 := rfl
  refine RunR.step (dst := some 14) (op := .convert 22 22 (.tmp 13)) (by kernel_rfl) (Step.mark_bytes hU 5 0 34 34 b11 ([67, 114, 121, 112, 116, 111, 103, 114, 97, 112, 104, 105, 99, 32, 70, 111, 114, 117, 109, 32, 82, 101, 115, 101, 97, 114, 99, 104, 32, 71, 114, 111, 117, 112] : List Int) rfl rfl (by kernel_rfl) (by kernel_rfl) (by decide) (by kernel_rfl) ?_)
  refine RunR.step (dst := some 15) (op := .call { callee := .value (.func 28), args := #[.tmp 12, .tmp 14], argTypes := #[22, 22] }) (by kernel_rfl) (Step.call 28 [.slice Aq1 zs3.length cq2, .slice (some ⟨b11, 0, none⟩) 34 34] (by kernel_rfl) (by kernel_rfl) [] [vw Aq1 (nums .u8 zs3), vw (some ⟨b11, 0, none⟩) (nums .u8 ([67, 114, 121, 112, 116, 111, 103, 114, 97, 112, 104, 105, 99, 32, 70, 111, 114, 117, 109, 32, 82, 101, 115, 101, 97, 114, 99, 104, 32, 71, 114, 111, 117, 112] : List Int))] [vw (some ⟨b11, 0, none⟩) (nums .u8 ([67, 114, 121, 112, 116, 111, 103, 114, 97, 112, 104, 105, 99, 32, 70, 111, 114, 117, 109, 32, 82, 101, 115, 101, 97, 114, 99, 104, 32, 71, 114, 111, 117, 112] : List Int)), row 5 1 (.slice Aq1 zs3.length cq2) zs3.length (nums .u8 zs3)] (y_Tag_spec Aq1 cq2 zs3 (some ⟨b11, 0, none⟩) 34 ([67, 114, 121, 112, 116, 111, 103, 114, 97, 112, 104, 105, 99, 32, 70, 111, 114, 117, 109, 32, 82, 101, 115, 101, 97, 114, 99, 104, 32, 71, 114, 111, 117, 112] : List Int) zs3.length 34 hp7 (by have hk_ := (un_told hp5 (show unhexl _ = some keyL by decide +kernel)).2; rw [hk_]; decide) (by (repeat first | assumption | (simp only [fits]; omega) | with_reducible first | exact fits_wrap _ _ | exact fits_bits2 _ _ _ _ | exact In.nil _ | exact In.sb _ | exact In.replicate _ _ | apply In.append | apply In.cons | apply In.set | apply In.take | apply In.drop | apply In.rev)) (by first | assumption | omega | (simp only [List.length_append, List.length_cons, List.length_nil, List.length_set, List.length_replicate, List.length_take, List.length_drop]; omega) | (simp only [fits] at *; omega) | (simp only [List.length_append, List.length_cons, List.length_nil, List.length_set, List.length_replicate, List.length_take, List.length_drop] at *; omega) | (simp; done) | decide) (by first | assumption | omega | (simp only [List.length_append, List.length_cons, List.length_nil, List.length_set, List.length_replicate, List.length_take, List.length_drop]; omega) | (simp only [fits] at *; omega) | (simp only [List.length_append, List.length_cons, List.length_nil, List.length_set, List.length_replicate, List.length_take, List.length_drop] at *; omega) | (simp; done) | decide) (by first | assumption | omega | (simp only [List.length_append, List.length_cons, List.length_nil, List.length_set, List.length_replicate, List.length_take, List.length_drop]; omega) | (simp only [fits] at *; omega) | (simp only [List.length_append, List.length_cons, List.length_nil, List.length_set, List.length_replicate, List.length_take, List.length_drop] at *; omega) | (simp; done) | decide) (by first | rfl | assumption | omega | (simp only [List.length_append, List.length_cons, List.length_nil, List.length_set, List.length_replicate, List.length_take, List.length_drop]; omega) | (simp; done)) (by first | rfl | assumption | omega | (simp only [List.length_append, List.length_cons, List.length_nil, List.length_set, List.length_replicate, List.length_take, List.length_drop]; omega) | (simp; done))) [] (by kernel_rfl) (((Lend.nil _).tells 0 (vw (some ⟨b11, 0, none⟩) (nums .u8 ([67, 114, 121, 112, 116, 111, 103, 114, 97, 112, 104, 105, 99, 32, 70, 111, 114, 117, 109, 32, 82, 101, 115, 101, 97, 114, 99, 104, 32, 71, 114, 111, 117, 112] : List Int))) (some ⟨b11, 0, none⟩) (nums .u8 ([67, 114, 121, 112, 116, 111, 103, 114, 97, 112, 104, 105, 99, 32, 70, 111, 114, 117, 109, 32, 82, 101, 115, 101, 97, 114, 99, 104, 32, 71, 114, 111, 117, 112] : List Int)) (by kernel_rfl) (tells_vw _ _)).tells 1 (row 5 1 (.slice Aq1 zs3.length cq2) zs3.length (nums .u8 zs3)) Aq1 (nums .u8 zs3) (by kernel_rfl) (tells_row _ _ _ _ _ _)) ?_)
  rintro _ _ ⟨A213, c214, zs15, e16, rfl, rfl, hp17, hp18, hp19, hp20, hp21⟩
  refine RunR.sil hU [] 5 9 [0, 3, 4] [(0, .bool false), (3, .slice A213 zs15.length c214), (4, .int .i64 e16)] ((True) ∧ (True) ∧ (True) ∧ (True) ∧ (True) ∧ True) rfl (by kernel_rfl) ⟨trivial, trivial, trivial, trivial, trivial, trivial⟩ ?_
  refine RunR.done (by kernel_rfl) ?_
  refine kseq_n ?_
  refine RunC.seq ?_
  refine RunC.region ?_
  refine RunR.turn ([vw none (nums .u8 ([] : List Int)), row 5 1 (.slice A213 zs15.length c214) zs15.length (nums .u8 zs15), vw (some ⟨b11, 0, none⟩) (nums .u8 ([67, 114, 121, 112, 116, 111, 103, 114, 97, 112, 104, 105, 99, 32, 70, 111, 114, 117, 109, 32, 82, 101, 115, 101, 97, 114, 99, 104, 32, 71, 114, 111, 117, 112] : List Int)), row 5 1 (.slice Aq1 zs3.length cq2) zs3.length (nums .u8 zs3)]) (fun _ _ w hs => hs.nil_vw none) ?_
  refine RunR.step (dst := some 19) (op := .call { callee := .value (.func 28), args := #[.const (.slice none 0 0), .const (.slice none 0 0)], argTypes := #[22, 22] }) (by kernel_rfl) (Step.call 28 [.slice none 0 0, .slice none 0 0] (by kernel_rfl) (by kernel_rfl) [] [vw none (nums .u8 ([] : List Int)), vw none (nums .u8 ([] : List Int))] [vw none (nums .u8 ([] : List Int)), row 5 1 (.slice A213 zs15.length c214) zs15.length (nums .u8 zs15), vw (some ⟨b11, 0, none⟩) (nums .u8 ([67, 114, 121, 112, 116, 111, 103, 114, 97, 112, 104, 105, 99, 32, 70, 111, 114, 117, 109, 32, 82, 101, 115, 101, 97, 114, 99, 104, 32, 71, 114, 111, 117, 112] : List Int)), row 5 1 (.slice Aq1 zs3.length cq2) zs3.length (nums .u8 zs3)] (y_Tag_spec none 0 ([] : List Int) none 0 ([] : List Int) 0 0 (by (repeat first | assumption | (simp only [fits]; omega) | with_reducible first | exact fits_wrap _ _ | exact fits_bits2 _ _ _ _ | exact In.nil _ | exact In.sb _ | exact In.replicate _ _ | apply In.append | apply In.cons | apply In.set | apply In.take | apply In.drop | apply In.rev)) (by first | assumption | omega | (simp only [List.length_append, List.length_cons, List.length_nil, List.length_set, List.length_replicate, List.length_take, List.length_drop]; omega) | (simp only [fits] at *; omega) | (simp only [List.length_append, List.length_cons, List.length_nil, List.length_set, List.length_replicate, List.length_take, List.length_drop] at *; omega) | (simp; done) | decide) (by (repeat first | assumption | (simp only [fits]; omega) | with_reducible first | exact fits_wrap _ _ | exact fits_bits2 _ _ _ _ | exact In.nil _ | exact In.sb _ | exact In.replicate _ _ | apply In.append | apply In.cons | apply In.set | apply In.take | apply In.drop | apply In.rev)) (by first | assumption | omega | (simp only [List.length_append, List.length_cons, List.length_nil, List.length_set, List.length_replicate, List.length_take, List.length_drop]; omega) | (simp only [fits] at *; omega) | (simp only [List.length_append, List.length_cons, List.length_nil, List.length_set, List.length_replicate, List.length_take, List.length_drop] at *; omega) | (simp; done) | decide) (by first | assumption | omega | (simp only [List.length_append, List.length_cons, List.length_nil, List.length_set, List.length_replicate, List.length_take, List.length_drop]; omega) | (simp only [fits] at *; omega) | (simp only [List.length_append, List.length_cons, List.length_nil, List.length_set, List.length_replicate, List.length_take, List.length_drop] at *; omega) | (simp; done) | decide) (by first | assumption | omega | (simp only [List.length_append, List.length_cons, List.length_nil, List.length_set, List.length_replicate, List.length_take, List.length_drop]; omega) | (simp only [fits] at *; omega) | (simp only [List.length_append, List.length_cons, List.length_nil, List.length_set, List.length_replicate, List.length_take, List.length_drop] at *; omega) | (simp; done) | decide) (by first | rfl | assumption | omega | (simp only [List.length_append, List.length_cons, List.length_nil, List.length_set, List.length_replicate, List.length_take, List.length_drop]; omega) | (simp; done)) (by first | rfl | assumption | omega | (simp only [List.length_append, List.length_cons, List.length_nil, List.length_set, List.length_replicate, List.length_take, List.length_drop]; omega) | (simp; done))) [] (by kernel_rfl) (((Lend.nil _).tells 0 (vw none (nums .u8 ([] : List Int))) none (nums .u8 ([] : List Int)) (by kernel_rfl) (tells_vw _ _)).tells 0 (vw none (nums .u8 ([] : List Int))) none (nums .u8 ([] : List Int)) (by kernel_rfl) (tells_vw _ _)) ?_)
  rintro _ _ ⟨A222, c223, zs24, e25, rfl, rfl, hp26, hp27, hp28, hp29, hp30⟩
  refine RunR.sil hU [] 5 6 [0, 3, 4, 6] [(0, .bool false), (3, .slice A213 zs15.length c214), (4, .int .i64 e16), (6, .int .i64 e25)] ((True) ∧ (True) ∧ (True) ∧ (True) ∧ (True) ∧ True) rfl (by kernel_rfl) ⟨trivial, trivial, trivial, trivial, trivial, trivial⟩ ?_
  refine RunR.done (by kernel_rfl) ?_
  refine kseq_n ?_
  refine RunC.seq ?_
  refine RunC.region ?_
  refine RunR.sil hU [] 3 3 [0, 3, 6, 24] [(0, .bool false), (3, .slice A213 zs15.length c214), (6, .int .i64 e25), (24, .bool (decide (e16 = 0)))] ((True) ∧ (True) ∧ (True) ∧ True) rfl (by kernel_rfl) ⟨trivial, trivial, trivial, trivial⟩ ?_
  refine RunR.env [0, 3, 6, 24] [(0, .bool false), (3, .slice A213 zs15.length c214), (6, .int .i64 e25), (24, .bool (decide (e16 = 0)))] (by kernel_rfl) ?_
  have hk31 : (e16 = 0) := by have hk_ := (un_told hp5 (show unhexl _ = some keyL by decide +kernel)).2; simp only [hp6, hp17, hp18, hp26, hp27, hk_]; decide +kernel
  refine RunR.enveq [(0, .bool false), (3, .slice A213 zs15.length c214), (6, .int .i64 e25), (24, .bool true)] (by rw [decide_eq_true hk31]; try rfl) ?_
  refine RunR.sil hU [] 5 8 [0, 3, 6, 29] [(0, .bool false), (3, .slice A213 zs15.length c214), (6, .int .i64 e25), (29, .bool (decide (((zs15.length : Nat) : Int) = 16)))] ((True) ∧ (True) ∧ (True) ∧ (True) ∧ (True) ∧ True) rfl (by kernel_rfl) ⟨trivial, trivial, trivial, trivial, trivial, trivial⟩ ?_
  refine RunR.env [0, 3, 6, 29] [(0, .bool false), (3, .slice A213 zs15.length c214), (6, .int .i64 e25), (29, .bool (decide (((zs15.length : Nat) : Int) = 16)))] (by kernel_rfl) ?_
  have hk32 : (((zs15.length : Nat) : Int) = 16) := by have hk_ := (un_told hp5 (show unhexl _ = some keyL by decide +kernel)).2; simp only [hp6, hp17, hp18, hp26, hp27, hk_]; decide +kernel
  refine RunR.enveq [(0, .bool false), (3, .slice A213 zs15.length c214), (6, .int .i64 e25), (29, .bool true)] (by rw [decide_eq_true hk32]; try rfl) ?_
  refine RunR.sil hU [] 2 10 [0, 3, 6, 29, 31] [(0, .bool false), (3, .slice A213 zs15.length c214), (6, .int .i64 e25), (29, .bool true), (31, .pointer (elemAt A213 0 1))] ((True) ∧ ((0 ≤ (0 : Int) ∧ (0 : Int) < ((zs15.length : Nat) : Int)) ∧ Option.isSome A213 = true) ∧ True) rfl (by kernel_rfl) ⟨trivial, ⟨by omega, hp21 (by omega)⟩, trivial⟩ ?_
  refine RunR.step (dst := some 32) (op := .load 5 (.tmp 31)) (by kernel_rfl) (Step.load_num hU 2 (row 5 1 (.slice A213 zs15.length c214) zs15.length (nums .u8 zs15)) A213 0 .u8 zs15 rfl (by kernel_rfl) (by kernel_rfl) (tells_row _ _ _ _ _ _) (by kernel_rfl) (by omega) ?_)
  have hb33 : 0 ≤ zs15.getD ((0 : Int).toNat) 0 ∧ zs15.getD ((0 : Int).toNat) 0 < 256 := hp19.at_ _
  refine RunR.sil hU [] 3 14 [0, 3, 6, 35] [(0, .bool false), (3, .slice A213 zs15.length c214), (6, .int .i64 e25), (35, .bool (decide ((zs15.getD (0 : Int).toNat 0) = 168)))] ((True) ∧ (True) ∧ (True) ∧ True) rfl (by kernel_rfl) ⟨trivial, trivial, trivial, trivial⟩ ?_
  refine RunR.env [0, 3, 6, 35] [(0, .bool false), (3, .slice A213 zs15.length c214), (6, .int .i64 e25), (35, .bool (decide ((zs15.getD (0 : Int).toNat 0) = 168)))] (by kernel_rfl) ?_
  have hk34 : ((zs15.getD (0 : Int).toNat 0) = 168) := by have hk_ := (un_told hp5 (show unhexl _ = some keyL by decide +kernel)).2; simp only [hp6, hp17, hp18, hp26, hp27, hk_]; decide +kernel
  refine RunR.enveq [(0, .bool false), (3, .slice A213 zs15.length c214), (6, .int .i64 e25), (35, .bool true)] (by rw [decide_eq_true hk34]; try rfl) ?_
  refine RunR.sil hU [] 2 16 [0, 3, 6, 35, 37] [(0, .bool false), (3, .slice A213 zs15.length c214), (6, .int .i64 e25), (35, .bool true), (37, .pointer (elemAt A213 1 1))] ((True) ∧ ((0 ≤ (1 : Int) ∧ (1 : Int) < ((zs15.length : Nat) : Int)) ∧ Option.isSome A213 = true) ∧ True) rfl (by kernel_rfl) ⟨trivial, ⟨by omega, hp21 (by omega)⟩, trivial⟩ ?_
  refine RunR.step (dst := some 38) (op := .load 5 (.tmp 37)) (by kernel_rfl) (Step.load_num hU 2 (row 5 1 (.slice A213 zs15.length c214) zs15.length (nums .u8 zs15)) A213 1 .u8 zs15 rfl (by kernel_rfl) (by kernel_rfl) (tells_row _ _ _ _ _ _) (by kernel_rfl) (by omega) ?_)
  have hb35 : 0 ≤ zs15.getD ((1 : Int).toNat) 0 ∧ zs15.getD ((1 : Int).toNat) 0 < 256 := hp19.at_ _
  refine RunR.sil hU [] 3 20 [0, 3, 6, 41] [(0, .bool false), (3, .slice A213 zs15.length c214), (6, .int .i64 e25), (41, .bool (decide ((zs15.getD (1 : Int).toNat 0) = 6)))] ((True) ∧ (True) ∧ (True) ∧ True) rfl (by kernel_rfl) ⟨trivial, trivial, trivial, trivial⟩ ?_
  refine RunR.env [0, 3, 6, 41] [(0, .bool false), (3, .slice A213 zs15.length c214), (6, .int .i64 e25), (41, .bool (decide ((zs15.getD (1 : Int).toNat 0) = 6)))] (by kernel_rfl) ?_
  have hk36 : ((zs15.getD (1 : Int).toNat 0) = 6) := by have hk_ := (un_told hp5 (show unhexl _ = some keyL by decide +kernel)).2; simp only [hp6, hp17, hp18, hp26, hp27, hk_]; decide +kernel
  refine RunR.enveq [(0, .bool false), (3, .slice A213 zs15.length c214), (6, .int .i64 e25), (41, .bool true)] (by rw [decide_eq_true hk36]; try rfl) ?_
  refine RunR.sil hU [] 2 22 [0, 3, 6, 41, 43] [(0, .bool false), (3, .slice A213 zs15.length c214), (6, .int .i64 e25), (41, .bool true), (43, .pointer (elemAt A213 2 1))] ((True) ∧ ((0 ≤ (2 : Int) ∧ (2 : Int) < ((zs15.length : Nat) : Int)) ∧ Option.isSome A213 = true) ∧ True) rfl (by kernel_rfl) ⟨trivial, ⟨by omega, hp21 (by omega)⟩, trivial⟩ ?_
  refine RunR.step (dst := some 44) (op := .load 5 (.tmp 43)) (by kernel_rfl) (Step.load_num hU 2 (row 5 1 (.slice A213 zs15.length c214) zs15.length (nums .u8 zs15)) A213 2 .u8 zs15 rfl (by kernel_rfl) (by kernel_rfl) (tells_row _ _ _ _ _ _) (by kernel_rfl) (by omega) ?_)
  have hb37 : 0 ≤ zs15.getD ((2 : Int).toNat) 0 ∧ zs15.getD ((2 : Int).toNat) 0 < 256 := hp19.at_ _
  refine RunR.sil hU [] 3 26 [0, 3, 6, 47] [(0, .bool false), (3, .slice A213 zs15.length c214), (6, .int .i64 e25), (47, .bool (decide ((zs15.getD (2 : Int).toNat 0) = 29)))] ((True) ∧ (True) ∧ (True) ∧ True) rfl (by kernel_rfl) ⟨trivial, trivial, trivial, trivial⟩ ?_
  refine RunR.env [0, 3, 6, 47] [(0, .bool false), (3, .slice A213 zs15.length c214), (6, .int .i64 e25), (47, .bool (decide ((zs15.getD (2 : Int).toNat 0) = 29)))] (by kernel_rfl) ?_
  have hk38 : ((zs15.getD (2 : Int).toNat 0) = 29) := by have hk_ := (un_told hp5 (show unhexl _ = some keyL by decide +kernel)).2; simp only [hp6, hp17, hp18, hp26, hp27, hk_]; decide +kernel
  refine RunR.enveq [(0, .bool false), (3, .slice A213 zs15.length c214), (6, .int .i64 e25), (47, .bool true)] (by rw [decide_eq_true hk38]; try rfl) ?_
  refine RunR.sil hU [] 2 28 [0, 6, 47, 49] [(0, .bool false), (6, .int .i64 e25), (47, .bool true), (49, .pointer (elemAt A213 3 1))] ((True) ∧ ((0 ≤ (3 : Int) ∧ (3 : Int) < ((zs15.length : Nat) : Int)) ∧ Option.isSome A213 = true) ∧ True) rfl (by kernel_rfl) ⟨trivial, ⟨by omega, hp21 (by omega)⟩, trivial⟩ ?_
  refine RunR.step (dst := some 50) (op := .load 5 (.tmp 49)) (by kernel_rfl) (Step.load_num hU 2 (row 5 1 (.slice A213 zs15.length c214) zs15.length (nums .u8 zs15)) A213 3 .u8 zs15 rfl (by kernel_rfl) (by kernel_rfl) (tells_row _ _ _ _ _ _) (by kernel_rfl) (by omega) ?_)
  have hb39 : 0 ≤ zs15.getD ((3 : Int).toNat) 0 ∧ zs15.getD ((3 : Int).toNat) 0 < 256 := hp19.at_ _
  refine RunR.sil hU [] 3 32 [0, 6, 53] [(0, .bool false), (6, .int .i64 e25), (53, .bool (decide ((zs15.getD (3 : Int).toNat 0) = 193)))] ((True) ∧ (True) ∧ (True) ∧ True) rfl (by kernel_rfl) ⟨trivial, trivial, trivial, trivial⟩ ?_
  refine RunR.env [0, 6, 53] [(0, .bool false), (6, .int .i64 e25), (53, .bool (decide ((zs15.getD (3 : Int).toNat 0) = 193)))] (by kernel_rfl) ?_
  have hk40 : ((zs15.getD (3 : Int).toNat 0) = 193) := by have hk_ := (un_told hp5 (show unhexl _ = some keyL by decide +kernel)).2; simp only [hp6, hp17, hp18, hp26, hp27, hk_]; decide +kernel
  refine RunR.enveq [(0, .bool false), (6, .int .i64 e25), (53, .bool true)] (by rw [decide_eq_true hk40]; try rfl) ?_
  refine RunR.sil hU [] 4 36 [0] [(0, .bool (decide (e25 = 1)))] ((True) ∧ (True) ∧ (True) ∧ (True) ∧ True) rfl (by kernel_rfl) ⟨trivial, trivial, trivial, trivial, trivial⟩ ?_
  refine RunR.env [0] [(0, .bool (decide (e25 = 1)))] (by kernel_rfl) ?_
  have hk41 : (e25 = 1) := by have hk_ := (un_told hp5 (show unhexl _ = some keyL by decide +kernel)).2; simp only [hp6, hp17, hp18, hp26, hp27, hk_]; decide +kernel
  refine RunR.enveq [(0, .bool true)] (by rw [decide_eq_true hk41]; try rfl) ?_
  refine RunR.done (by kernel_rfl) ?_
  refine kseq_n ?_
  refine RunC.ret ?_
  refine kret_r [.bool true] [] [] ⟨rfl, trivial⟩ (by kernel_rfl) rfl ⟨rfl, rfl⟩
end Go.Proofs.Ytoaoabnhkiijpaa.Y1
