/- The law TopKeys returns true whatever it is handed: its walk, on the contracts of what it calls. -/
import Derived.Test.YtkehpipialmneaaAPure
import Derived.Test.YtkehpipialmneaaProg
import Derived.Test.YtkehpipialmneaaX1
import Derived.Test.YtkehpipialmneaaX2
import Derived.Test.YtkehpipialmneaaX3
import Derived.Test.YtkehpipialmneaaX4
import Derived.Test.YtkehpipialmneaaX5
import Derived.Test.YtkehpipialmneaaX6
import Derived.Test.YtkehpipialmneaaX7
import Derived.Test.YtkehpipialmneaaX8
import Derived.Test.YtkehpipialmneaaX9
import Derived.Test.YtkehpipialmneaaY1
import Derived.Test.YtkehpipialmneaaY2
import Derived.Test.YtkehpipialmneaaY3
import Derived.Test.YtkehpipialmneaaY4
import Derived.Test.YtkehpipialmneaaZ1
import Derived.Test.YtkehpipialmneaaZ2
namespace Go.Proofs.Ytkehpipialmneaa.LTopKeys
open Go Go.Proofs.Ytkehpipialmneaa.SL Go.Proofs.Ytkehpipialmneaa.SL.W Go.Proofs.Ytkehpipialmneaa.SL.C Go.Proofs.Ytkehpipialmneaa.SL.H Go.Proofs.Ytkehpipialmneaa.SL.M Go.Proofs.Ytkehpipialmneaa.SL.Y Go.Proofs.Ytkehpipialmneaa.SL.A Go.Proofs.Ytkehpipialmneaa.X1 Go.Proofs.Ytkehpipialmneaa.X2 Go.Proofs.Ytkehpipialmneaa.X3 Go.Proofs.Ytkehpipialmneaa.X4 Go.Proofs.Ytkehpipialmneaa.X5 Go.Proofs.Ytkehpipialmneaa.X6 Go.Proofs.Ytkehpipialmneaa.X7 Go.Proofs.Ytkehpipialmneaa.X8 Go.Proofs.Ytkehpipialmneaa.X9 Go.Proofs.Ytkehpipialmneaa.Y1 Go.Proofs.Ytkehpipialmneaa.Y2 Go.Proofs.Ytkehpipialmneaa.Y3 Go.Proofs.Ytkehpipialmneaa.Y4 Go.Proofs.Ytkehpipialmneaa.Z1 Go.Proofs.Ytkehpipialmneaa.Z2
set_option linter.unusedVariables false
set_option linter.unusedSimpArgs false
set_option maxRecDepth 100000
set_option maxHeartbeats 40000000
def U : Tab where
  und := [(3, .int .i64), (5, .int .u8), (24, .slice 5), (28, .int .i64), (33, .array 2 5)]
  fld := []
  sz := [(3, 1), (5, 1), (24, 1), (28, 1), (33, 2)]
  ti := [(3, (1, 8, .int .i64 0)), (5, (1, 1, .int .u8 0)), (24, (1, 24, .slice none 0 0)), (28, (1, 8, .int .i64 0)), (33, (2, 2, .agg #[.int .u8 0, .int .u8 0]))]
  bld := []

theorem hU : U.OK Try.prog where
  und := by
    intro p hp
    simp only [U, List.mem_cons, List.not_mem_nil, or_false] at hp
    rcases hp with rfl | rfl | rfl | rfl | rfl
    · exact Try.underlying3
    · exact Try.underlying5
    · exact Try.underlying24
    · exact Try.underlying28
    · exact Try.underlying33
  fld := by
    intro p hp; cases hp
  sz := by
    intro p hp
    simp only [U, List.mem_cons, List.not_mem_nil, or_false] at hp
    rcases hp with rfl | rfl | rfl | rfl | rfl
    · exact ⟨Try.prog.types[3]!, by kernel_rfl, by kernel_rfl⟩
    · exact ⟨Try.prog.types[5]!, by kernel_rfl, by kernel_rfl⟩
    · exact ⟨Try.prog.types[24]!, by kernel_rfl, by kernel_rfl⟩
    · exact ⟨Try.prog.types[28]!, by kernel_rfl, by kernel_rfl⟩
    · exact ⟨Try.prog.types[33]!, by kernel_rfl, by kernel_rfl⟩
  ti := by
    intro p hp
    simp only [U, List.mem_cons, List.not_mem_nil, or_false] at hp
    rcases hp with rfl | rfl | rfl | rfl | rfl
    · exact ⟨Try.prog.types[3]!, by kernel_rfl, by kernel_rfl, by kernel_rfl, by kernel_rfl⟩
    · exact ⟨Try.prog.types[5]!, by kernel_rfl, by kernel_rfl, by kernel_rfl, by kernel_rfl⟩
    · exact ⟨Try.prog.types[24]!, by kernel_rfl, by kernel_rfl, by kernel_rfl, by kernel_rfl⟩
    · exact ⟨Try.prog.types[28]!, by kernel_rfl, by kernel_rfl, by kernel_rfl, by kernel_rfl⟩
    · exact ⟨Try.prog.types[33]!, by kernel_rfl, by kernel_rfl, by kernel_rfl, by kernel_rfl⟩
  bld := by
    intro p hp; cases hp
  mixed := by kernel_rfl

theorem t_TopKeys_spec (A : Option Addr) (c : Nat) (kk : List Int) (A6 : Option Addr) (c6 : Nat) (ss : List Int) (a : Int) (b : Int) (l_kk : Nat) (l_ss : Nat) (hIkk : In .u8 kk) (hCkk : kk.length ≤ c) (hBkk : kk.length ≤ 140737488351232) (hIss : In .u8 ss) (hCss : ss.length ≤ c6) (hBss : ss.length ≤ 140737488351232) (ha : fits .u8 a) (hb : fits .u8 b) (hl_kk : kk.length = l_kk) (hl_ss : ss.length = l_ss) :
    CallsS Try.prog 4 [.slice A l_kk c, .slice A6 l_ss c6, .agg #[.int .u8 a, .int .u8 b]] [vw A (nums .u8 kk), vw A6 (nums .u8 ss)] (fun r D => r = .bool true ∧ D = []) := by
  subst hl_kk
  subst hl_ss
  refine CallsS.enter hU Try.f4 _ [.tmp 6] 78 Try.func4 rfl (by decide) rfl rfl (by kernel_rfl) fun w0 W => ?_
  have ha2 := ha; have hb2 := hb; simp only [fits] at ha2 hb2
  refine RunC.know (p := 0 < kk.length → Option.isSome A = true) (fun _ _ w hs => vw_some hs 0 rfl (by first | simp [nums_length]; done | exact dosV_len _)) (fun hA1 => ?_)
  refine RunC.know (p := 0 < ss.length → Option.isSome A6 = true) (fun _ _ w hs => vw_some hs 1 rfl (by first | simp [nums_length]; done | exact dosV_len _)) (fun hA2 => ?_)
  refine RunC.seq ?_
  refine RunC.region ?_
  refine RunR.step (dst := some 5) (op := .box 33 (.tmp 2)) (by kernel_rfl) (Step.box (.agg #[.int .u8 a, .int .u8 b]) (by kernel_rfl) (by kernel_rfl) (fun b3 => ?_))
  refine RunR.sil hU [] 1 2 [0, 1, 5, 6] [(0, .slice A kk.length c), (1, .slice A6 ss.length c6), (5, .pointer (some ⟨b3, 0, none⟩)), (6, .bool false)] ((True) ∧ True) rfl (by kernel_rfl) ⟨trivial, trivial⟩ ?_
  refine RunR.done (by kernel_rfl) ?_
  refine kseq_n ?_
  refine RunC.seq ?_
  refine RunC.seq ?_
  refine RunC.region ?_
  refine RunR.step (dst := some 13) (op := .call { callee := .value (.func 7), args := #[], argTypes := #[] }) (by kernel_rfl) (Step.call 7 [] (by kernel_rfl) (by kernel_rfl) [] [] [blk b3 33 [.int .u8 a, .int .u8 b], vw A (nums .u8 kk), vw A6 (nums .u8 ss)] (t_sealing_spec) [] (by kernel_rfl) (Lend.nil _) ?_)
  rintro _ _ ⟨rfl, rfl⟩
  refine RunR.sil hU [] 1 2 [0, 1, 5, 6, 14] [(0, .slice A kk.length c), (1, .slice A6 ss.length c6), (5, .pointer (some ⟨b3, 0, none⟩)), (6, .bool false), (14, .bool false)] ((True) ∧ True) rfl (by kernel_rfl) ⟨trivial, trivial⟩ ?_
  refine RunR.done (by kernel_rfl) ?_
  refine kseq_n ?_
  refine RunC.cond (b := false) (by kernel_rfl) (fun h => by cases h) (fun _ => ?_)
  refine RunC.skip ?_
  refine kseq_n ?_
  refine RunC.seq ?_
  refine RunC.seq ?_
  refine RunC.region ?_
  refine RunR.sil hU [] 4 4 [0, 1, 5, 6, 18] [(0, .slice A kk.length c), (1, .slice A6 ss.length c6), (5, .pointer (some ⟨b3, 0, none⟩)), (6, .bool false), (18, .bool (decide (((kk.length : Nat) : Int) > 500)))] ((True) ∧ (True) ∧ (True) ∧ (True) ∧ True) rfl (by kernel_rfl) ⟨trivial, trivial, trivial, trivial, trivial⟩ ?_
  refine RunR.env [0, 1, 5, 6, 18] [(0, .slice A kk.length c), (1, .slice A6 ss.length c6), (5, .pointer (some ⟨b3, 0, none⟩)), (6, .bool false), (18, .bool (decide (((kk.length : Nat) : Int) > 500)))] (by kernel_rfl) ?_
  by_cases h4 : ((kk.length : Nat) : Int) > 500
  · skip
    refine RunR.enveq [(0, .slice A kk.length c), (1, .slice A6 ss.length c6), (5, .pointer (some ⟨b3, 0, none⟩)), (6, .bool false), (18, .bool true)] (by rw [decide_eq_true h4]; try rfl) ?_
    refine RunR.sil hU [] 4 8 [0, 1, 5, 6, 22] [(0, .slice A kk.length c), (1, .slice A6 ss.length c6), (5, .pointer (some ⟨b3, 0, none⟩)), (6, .bool false), (22, .bool true)] ((True) ∧ True) rfl (by kernel_rfl) ⟨trivial, trivial⟩ ?_
    refine RunR.done (by kernel_rfl) ?_
    refine kseq_n ?_
    refine RunC.cond (b := true) (by kernel_rfl) (fun _ => ?_) (fun h => by cases h)
    refine RunC.seq ?_
    refine RunC.region ?_
    refine RunR.sil hU [] 1 1 [0, 1, 5, 6] [(0, .slice A kk.length c), (1, .slice A6 ss.length c6), (5, .pointer (some ⟨b3, 0, none⟩)), (6, .bool true)] ((True) ∧ True) rfl (by kernel_rfl) ⟨trivial, trivial⟩ ?_
    refine RunR.done (by kernel_rfl) ?_
    refine kseq_n ?_
    refine RunC.ret ?_
    refine kseq_r ?_
    refine kret_r [.bool true] [] [] ⟨rfl, trivial⟩ (by kernel_rfl) rfl ⟨rfl, rfl⟩
  · skip
    refine RunR.enveq [(0, .slice A kk.length c), (1, .slice A6 ss.length c6), (5, .pointer (some ⟨b3, 0, none⟩)), (6, .bool false), (18, .bool false)] (by rw [decide_eq_false h4]; try rfl) ?_
    refine RunR.sil hU [] 4 8 [0, 1, 5, 6, 22] [(0, .slice A kk.length c), (1, .slice A6 ss.length c6), (5, .pointer (some ⟨b3, 0, none⟩)), (6, .bool false), (22, .bool (decide (((ss.length : Nat) : Int) > 500)))] ((True) ∧ (True) ∧ (True) ∧ (True) ∧ True) rfl (by kernel_rfl) ⟨trivial, trivial, trivial, trivial, trivial⟩ ?_
    refine RunR.done (by kernel_rfl) ?_
    refine kseq_n ?_
    refine RunC.condp (((ss.length : Nat) : Int) > 500) (by kernel_rfl) (fun h5 => ?_) (fun h5 => ?_)
    · skip
      refine RunC.seq ?_
      refine RunC.region ?_
      refine RunR.sil hU [] 1 1 [0, 1, 5, 6] [(0, .slice A kk.length c), (1, .slice A6 ss.length c6), (5, .pointer (some ⟨b3, 0, none⟩)), (6, .bool true)] ((True) ∧ True) rfl (by kernel_rfl) ⟨trivial, trivial⟩ ?_
      refine RunR.done (by kernel_rfl) ?_
      refine kseq_n ?_
      refine RunC.ret ?_
      refine kseq_r ?_
      refine kret_r [.bool true] [] [] ⟨rfl, trivial⟩ (by kernel_rfl) rfl ⟨rfl, rfl⟩
    · skip
      refine RunC.skip ?_
      refine kseq_n ?_
      refine RunC.seq ?_
      refine RunC.region ?_
      refine RunR.sil hU [] 1 1 [0, 1, 5, 6, 23] [(0, .slice A kk.length c), (1, .slice A6 ss.length c6), (5, .pointer (some ⟨b3, 0, none⟩)), (6, .bool false), (23, .pointer (some ⟨b3, 0, none⟩))] ((0 ≤ (0 : Int) ∧ (0 : Int) < ((2 : Nat) : Int)) ∧ True) rfl (by kernel_rfl) ⟨(by omega), trivial⟩ ?_
      refine RunR.step (dst := some 24) (op := .load 5 (.tmp 23)) (by kernel_rfl) (Step.load_blk hU 0 b3 (0) 33 [.int .u8 a, .int .u8 b] (.int .u8 a) (by kernel_rfl) (by kernel_rfl) (by kernel_rfl) (by kernel_rfl) ?_)
      refine RunR.sil hU [] 1 3 [0, 1, 5, 6, 24, 25] [(0, .slice A kk.length c), (1, .slice A6 ss.length c6), (5, .pointer (some ⟨b3, 0, none⟩)), (6, .bool false), (24, .int .u8 a), (25, .pointer (some ⟨b3, 1, none⟩))] ((0 ≤ (1 : Int) ∧ (1 : Int) < ((2 : Nat) : Int)) ∧ True) rfl (by kernel_rfl) ⟨(by omega), trivial⟩ ?_
      refine RunR.step (dst := some 26) (op := .load 5 (.tmp 25)) (by kernel_rfl) (Step.load_blk hU 0 b3 (1) 33 [.int .u8 a, .int .u8 b] (.int .u8 b) (by kernel_rfl) (by kernel_rfl) (by kernel_rfl) (by kernel_rfl) ?_)
      have hm6 : ((if b < a then b else a) = a ∨ (if b < a then b else a) = b) ∧ (if b < a then b else a) ≤ a ∧ (if b < a then b else a) ≤ b := by split <;> omega
      refine RunR.sil hU [5] 3 7 [0, 1, 5, 6, 7] [(0, .slice A kk.length c), (1, .slice A6 ss.length c6), (5, .pointer (some ⟨b3, 0, none⟩)), (6, .bool false), (7, .int .i64 (if b < a then b else a))] ((True) ∧ (-9223372036854775808 ≤ (if b < a then b else a) ∧ (if b < a then b else a) < 9223372036854775808) ∧ (True) ∧ True) rfl (by kernel_rfl) ⟨trivial, (by omega), trivial, trivial⟩ ?_
      refine RunR.done (by kernel_rfl) ?_
      refine kseq_n ?_
      refine RunC.seq ?_
      refine RunC.region ?_
      refine RunR.sil hU [] 1 1 [0, 1, 5, 6, 7, 29] [(0, .slice A kk.length c), (1, .slice A6 ss.length c6), (5, .pointer (some ⟨b3, 0, none⟩)), (6, .bool false), (7, .int .i64 (if b < a then b else a)), (29, .pointer (some ⟨b3, 0, none⟩))] ((0 ≤ (0 : Int) ∧ (0 : Int) < ((2 : Nat) : Int)) ∧ True) rfl (by kernel_rfl) ⟨(by omega), trivial⟩ ?_
      refine RunR.step (dst := some 30) (op := .load 5 (.tmp 29)) (by kernel_rfl) (Step.load_blk hU 0 b3 (0) 33 [.int .u8 a, .int .u8 b] (.int .u8 a) (by kernel_rfl) (by kernel_rfl) (by kernel_rfl) (by kernel_rfl) ?_)
      refine RunR.sil hU [] 1 3 [0, 1, 6, 7, 30, 31] [(0, .slice A kk.length c), (1, .slice A6 ss.length c6), (6, .bool false), (7, .int .i64 (if b < a then b else a)), (30, .int .u8 a), (31, .pointer (some ⟨b3, 1, none⟩))] ((0 ≤ (1 : Int) ∧ (1 : Int) < ((2 : Nat) : Int)) ∧ True) rfl (by kernel_rfl) ⟨(by omega), trivial⟩ ?_
      refine RunR.step (dst := some 32) (op := .load 5 (.tmp 31)) (by kernel_rfl) (Step.load_blk hU 0 b3 (1) 33 [.int .u8 a, .int .u8 b] (.int .u8 b) (by kernel_rfl) (by kernel_rfl) (by kernel_rfl) (by kernel_rfl) ?_)
      have hm7 : ((if b > a then b else a) = a ∨ (if b > a then b else a) = b) ∧ (if b > a then b else a) ≥ a ∧ (if b > a then b else a) ≥ b := by split <;> omega
      refine RunR.sil hU [5] 3 7 [0, 1, 6, 7, 8] [(0, .slice A kk.length c), (1, .slice A6 ss.length c6), (6, .bool false), (7, .int .i64 (if b < a then b else a)), (8, .int .i64 (if b > a then b else a))] ((True) ∧ (-9223372036854775808 ≤ (if b > a then b else a) ∧ (if b > a then b else a) < 9223372036854775808) ∧ (True) ∧ True) rfl (by kernel_rfl) ⟨trivial, (by omega), trivial, trivial⟩ ?_
      refine RunR.done (by kernel_rfl) ?_
      refine kseq_n ?_
      refine RunC.seq ?_
      refine RunC.region ?_
      refine RunR.sil hU [] 2 2 [0, 1, 6, 7, 8, 36, 37] [(0, .slice A kk.length c), (1, .slice A6 ss.length c6), (6, .bool false), (7, .int .i64 (if b < a then b else a)), (8, .int .i64 (if b > a then b else a)), (36, .slice A kk.length c), (37, .slice A6 ss.length c6)] ((True) ∧ (True) ∧ True) rfl (by kernel_rfl) ⟨trivial, trivial, trivial⟩ ?_
      refine RunR.step (dst := some 38) (op := .buildSlice 24 4 #[(0, .const (.int .u8 105)), (1, .const (.int .u8 110)), (2, .const (.int .u8 102)), (3, .const (.int .u8 111))]) (by kernel_rfl) (Step.lit_nums hU 5 1 .u8 (.int .u8 0) ([105, 110, 102, 111] : List Int) rfl rfl (by kernel_rfl) rfl rfl (by kernel_rfl) (fun b8 => ?_))
      have hl9 : (([105, 110, 102, 111] : List Int)).length = 4 := rfl
      refine RunR.step (dst := some 39) (op := .convert 24 24 (.tmp 38)) (by kernel_rfl) (Step.mark_bytes hU 5 0 4 4 b8 ([105, 110, 102, 111] : List Int) rfl rfl (by kernel_rfl) (by kernel_rfl) (by decide) (by kernel_rfl) ?_)
      refine RunR.sil hU [] 1 5 [0, 1, 6, 7, 8, 36, 37, 39, 40] [(0, .slice A kk.length c), (1, .slice A6 ss.length c6), (6, .bool false), (7, .int .i64 (if b < a then b else a)), (8, .int .i64 (if b > a then b else a)), (36, .slice A kk.length c), (37, .slice A6 ss.length c6), (39, .slice (some ⟨b8, 0, none⟩) 4 4), (40, .int .i64 (if b < a then b else a))] ((True) ∧ True) rfl (by kernel_rfl) ⟨trivial, trivial⟩ ?_
      refine RunR.step (dst := some 41) (op := .call { callee := .value (.func 11), args := #[.tmp 36, .tmp 37, .tmp 39, .tmp 40], argTypes := #[24, 24, 24, 3] }) (by kernel_rfl) (Step.call 11 [.slice A kk.length c, .slice A6 ss.length c6, .slice (some ⟨b8, 0, none⟩) 4 4, .int .i64 (if b < a then b else a)] (by kernel_rfl) (by kernel_rfl) [] [vw A (nums .u8 kk), vw A6 (nums .u8 ss), vw (some ⟨b8, 0, none⟩) (nums .u8 ([105, 110, 102, 111] : List Int))] [vw (some ⟨b8, 0, none⟩) (nums .u8 ([105, 110, 102, 111] : List Int)), blk b3 33 [.int .u8 a, .int .u8 b], vw A (nums .u8 kk), vw A6 (nums .u8 ss)] (m_Derive_spec A c kk A6 c6 ss (some ⟨b8, 0, none⟩) 4 ([105, 110, 102, 111] : List Int) (if b < a then b else a) kk.length ss.length 4 hIkk (by first | assumption | omega | (simp only [List.length_append, List.length_cons, List.length_nil, List.length_set, List.length_replicate, List.length_take, List.length_drop]; omega) | (simp only [fits] at *; omega) | (simp only [List.length_append, List.length_cons, List.length_nil, List.length_set, List.length_replicate, List.length_take, List.length_drop] at *; omega) | (simp; done) | decide) (by first | assumption | omega | (simp only [List.length_append, List.length_cons, List.length_nil, List.length_set, List.length_replicate, List.length_take, List.length_drop]; omega) | (simp only [fits] at *; omega) | (simp only [List.length_append, List.length_cons, List.length_nil, List.length_set, List.length_replicate, List.length_take, List.length_drop] at *; omega) | (simp; done) | decide) hIss (by first | assumption | omega | (simp only [List.length_append, List.length_cons, List.length_nil, List.length_set, List.length_replicate, List.length_take, List.length_drop]; omega) | (simp only [fits] at *; omega) | (simp only [List.length_append, List.length_cons, List.length_nil, List.length_set, List.length_replicate, List.length_take, List.length_drop] at *; omega) | (simp; done) | decide) (by first | assumption | omega | (simp only [List.length_append, List.length_cons, List.length_nil, List.length_set, List.length_replicate, List.length_take, List.length_drop]; omega) | (simp only [fits] at *; omega) | (simp only [List.length_append, List.length_cons, List.length_nil, List.length_set, List.length_replicate, List.length_take, List.length_drop] at *; omega) | (simp; done) | decide) (by (repeat first | assumption | (simp only [fits]; omega) | with_reducible first | exact fits_wrap _ _ | exact fits_bits2 _ _ _ _ | exact In.nil _ | exact In.sb _ | exact In.replicate _ _ | apply In.append | apply In.cons | apply In.set | apply In.take | apply In.drop | apply In.rev)) (by first | assumption | omega | (simp only [List.length_append, List.length_cons, List.length_nil, List.length_set, List.length_replicate, List.length_take, List.length_drop]; omega) | (simp only [fits] at *; omega) | (simp only [List.length_append, List.length_cons, List.length_nil, List.length_set, List.length_replicate, List.length_take, List.length_drop] at *; omega) | (simp; done) | decide) (by first | assumption | omega | (simp only [List.length_append, List.length_cons, List.length_nil, List.length_set, List.length_replicate, List.length_take, List.length_drop]; omega) | (simp only [fits] at *; omega) | (simp only [List.length_append, List.length_cons, List.length_nil, List.length_set, List.length_replicate, List.length_take, List.length_drop] at *; omega) | (simp; done) | decide) (by first | assumption | exact fits_wrap _ _ | exact fits_bits2 _ _ _ _ | (refine ⟨?_, ?_⟩ <;> omega)) (by first | rfl | assumption | omega | (simp only [List.length_append, List.length_cons, List.length_nil, List.length_set, List.length_replicate, List.length_take, List.length_drop]; omega) | (simp; done)) (by first | rfl | assumption | omega | (simp only [List.length_append, List.length_cons, List.length_nil, List.length_set, List.length_replicate, List.length_take, List.length_drop]; omega) | (simp; done)) (by first | rfl | assumption | omega | (simp only [List.length_append, List.length_cons, List.length_nil, List.length_set, List.length_replicate, List.length_take, List.length_drop]; omega) | (simp; done))) [] (by kernel_rfl) ((((Lend.nil _).tells 0 (vw (some ⟨b8, 0, none⟩) (nums .u8 ([105, 110, 102, 111] : List Int))) (some ⟨b8, 0, none⟩) (nums .u8 ([105, 110, 102, 111] : List Int)) (by kernel_rfl) (tells_vw _ _)).tells 3 (vw A6 (nums .u8 ss)) A6 (nums .u8 ss) (by kernel_rfl) (tells_vw _ _)).tells 2 (vw A (nums .u8 kk)) A (nums .u8 kk) (by kernel_rfl) (tells_vw _ _)) ?_)
      rintro _ _ ⟨A210, c211, N12, ws13, zs14, e15, rfl, rfl, hp16, hp17, hp18, hp19⟩
      have hB20_t : Tells (row 5 1 (.slice A210 N12 c211) N12 (nums .u8 ws13)) (A210) (nums .u8 zs14) := by rw [hp19]; exact tells_take_nums (tells_row _ _ _ _ _ _) _
      refine RunR.sil hU [] 5 11 [0, 1, 6, 7, 8, 9, 10] [(0, .slice A kk.length c), (1, .slice A6 ss.length c6), (6, .bool false), (7, .int .i64 (if b < a then b else a)), (8, .int .i64 (if b > a then b else a)), (9, .slice A210 zs14.length zs14.length), (10, .int .i64 e15)] ((True) ∧ (True) ∧ (True) ∧ (True) ∧ (True) ∧ True) rfl (by kernel_rfl) ⟨trivial, trivial, trivial, trivial, trivial, trivial⟩ ?_
      refine RunR.done (by kernel_rfl) ?_
      refine kseq_n ?_
      refine RunC.seq ?_
      refine RunC.region ?_
      refine RunR.sil hU [] 2 2 [6, 7, 8, 9, 10, 45, 46] [(6, .bool false), (7, .int .i64 (if b < a then b else a)), (8, .int .i64 (if b > a then b else a)), (9, .slice A210 zs14.length zs14.length), (10, .int .i64 e15), (45, .slice A kk.length c), (46, .slice A6 ss.length c6)] ((True) ∧ (True) ∧ True) rfl (by kernel_rfl) ⟨trivial, trivial, trivial⟩ ?_
      refine RunR.step (dst := some 47) (op := .buildSlice 24 4 #[(0, .const (.int .u8 105)), (1, .const (.int .u8 110)), (2, .const (.int .u8 102)), (3, .const (.int .u8 111))]) (by kernel_rfl) (Step.lit_nums hU 5 1 .u8 (.int .u8 0) ([105, 110, 102, 111] : List Int) rfl rfl (by kernel_rfl) rfl rfl (by kernel_rfl) (fun b21 => ?_))
      have hl22 : (([105, 110, 102, 111] : List Int)).length = 4 := rfl
      refine RunR.step (dst := some 48) (op := .convert 24 24 (.tmp 47)) (by kernel_rfl) (Step.mark_bytes hU 5 0 4 4 b21 ([105, 110, 102, 111] : List Int) rfl rfl (by kernel_rfl) (by kernel_rfl) (by decide) (by kernel_rfl) ?_)
      refine RunR.sil hU [] 1 5 [6, 7, 8, 9, 10, 45, 46, 48, 49] [(6, .bool false), (7, .int .i64 (if b < a then b else a)), (8, .int .i64 (if b > a then b else a)), (9, .slice A210 zs14.length zs14.length), (10, .int .i64 e15), (45, .slice A kk.length c), (46, .slice A6 ss.length c6), (48, .slice (some ⟨b21, 0, none⟩) 4 4), (49, .int .i64 (if b > a then b else a))] ((True) ∧ True) rfl (by kernel_rfl) ⟨trivial, trivial⟩ ?_
      refine RunR.step (dst := some 50) (op := .call { callee := .value (.func 11), args := #[.tmp 45, .tmp 46, .tmp 48, .tmp 49], argTypes := #[24, 24, 24, 3] }) (by kernel_rfl) (Step.call 11 [.slice A kk.length c, .slice A6 ss.length c6, .slice (some ⟨b21, 0, none⟩) 4 4, .int .i64 (if b > a then b else a)] (by kernel_rfl) (by kernel_rfl) [] [vw A (nums .u8 kk), vw A6 (nums .u8 ss), vw (some ⟨b21, 0, none⟩) (nums .u8 ([105, 110, 102, 111] : List Int))] [vw (some ⟨b21, 0, none⟩) (nums .u8 ([105, 110, 102, 111] : List Int)), row 5 1 (.slice A210 N12 c211) N12 (nums .u8 ws13), vw (some ⟨b8, 0, none⟩) (nums .u8 ([105, 110, 102, 111] : List Int)), blk b3 33 [.int .u8 a, .int .u8 b], vw A (nums .u8 kk), vw A6 (nums .u8 ss)] (m_Derive_spec A c kk A6 c6 ss (some ⟨b21, 0, none⟩) 4 ([105, 110, 102, 111] : List Int) (if b > a then b else a) kk.length ss.length 4 hIkk (by first | assumption | omega | (simp only [List.length_append, List.length_cons, List.length_nil, List.length_set, List.length_replicate, List.length_take, List.length_drop]; omega) | (simp only [fits] at *; omega) | (simp only [List.length_append, List.length_cons, List.length_nil, List.length_set, List.length_replicate, List.length_take, List.length_drop] at *; omega) | (simp; done) | decide) (by first | assumption | omega | (simp only [List.length_append, List.length_cons, List.length_nil, List.length_set, List.length_replicate, List.length_take, List.length_drop]; omega) | (simp only [fits] at *; omega) | (simp only [List.length_append, List.length_cons, List.length_nil, List.length_set, List.length_replicate, List.length_take, List.length_drop] at *; omega) | (simp; done) | decide) hIss (by first | assumption | omega | (simp only [List.length_append, List.length_cons, List.length_nil, List.length_set, List.length_replicate, List.length_take, List.length_drop]; omega) | (simp only [fits] at *; omega) | (simp only [List.length_append, List.length_cons, List.length_nil, List.length_set, List.length_replicate, List.length_take, List.length_drop] at *; omega) | (simp; done) | decide) (by first | assumption | omega | (simp only [List.length_append, List.length_cons, List.length_nil, List.length_set, List.length_replicate, List.length_take, List.length_drop]; omega) | (simp only [fits] at *; omega) | (simp only [List.length_append, List.length_cons, List.length_nil, List.length_set, List.length_replicate, List.length_take, List.length_drop] at *; omega) | (simp; done) | decide) (by (repeat first | assumption | (simp only [fits]; omega) | with_reducible first | exact fits_wrap _ _ | exact fits_bits2 _ _ _ _ | exact In.nil _ | exact In.sb _ | exact In.replicate _ _ | apply In.append | apply In.cons | apply In.set | apply In.take | apply In.drop | apply In.rev)) (by first | assumption | omega | (simp only [List.length_append, List.length_cons, List.length_nil, List.length_set, List.length_replicate, List.length_take, List.length_drop]; omega) | (simp only [fits] at *; omega) | (simp only [List.length_append, List.length_cons, List.length_nil, List.length_set, List.length_replicate, List.length_take, List.length_drop] at *; omega) | (simp; done) | decide) (by first | assumption | omega | (simp only [List.length_append, List.length_cons, List.length_nil, List.length_set, List.length_replicate, List.length_take, List.length_drop]; omega) | (simp only [fits] at *; omega) | (simp only [List.length_append, List.length_cons, List.length_nil, List.length_set, List.length_replicate, List.length_take, List.length_drop] at *; omega) | (simp; done) | decide) (by first | assumption | exact fits_wrap _ _ | exact fits_bits2 _ _ _ _ | (refine ⟨?_, ?_⟩ <;> omega)) (by first | rfl | assumption | omega | (simp only [List.length_append, List.length_cons, List.length_nil, List.length_set, List.length_replicate, List.length_take, List.length_drop]; omega) | (simp; done)) (by first | rfl | assumption | omega | (simp only [List.length_append, List.length_cons, List.length_nil, List.length_set, List.length_replicate, List.length_take, List.length_drop]; omega) | (simp; done)) (by first | rfl | assumption | omega | (simp only [List.length_append, List.length_cons, List.length_nil, List.length_set, List.length_replicate, List.length_take, List.length_drop]; omega) | (simp; done))) [] (by kernel_rfl) ((((Lend.nil _).tells 0 (vw (some ⟨b21, 0, none⟩) (nums .u8 ([105, 110, 102, 111] : List Int))) (some ⟨b21, 0, none⟩) (nums .u8 ([105, 110, 102, 111] : List Int)) (by kernel_rfl) (tells_vw _ _)).tells 5 (vw A6 (nums .u8 ss)) A6 (nums .u8 ss) (by kernel_rfl) (tells_vw _ _)).tells 4 (vw A (nums .u8 kk)) A (nums .u8 kk) (by kernel_rfl) (tells_vw _ _)) ?_)
      rintro _ _ ⟨A223, c224, N25, ws26, zs27, e28, rfl, rfl, hp29, hp30, hp31, hp32⟩
      have hB33_t : Tells (row 5 1 (.slice A223 N25 c224) N25 (nums .u8 ws26)) (A223) (nums .u8 zs27) := by rw [hp32]; exact tells_take_nums (tells_row _ _ _ _ _ _) _
      refine RunR.sil hU [] 5 11 [6, 7, 8, 9, 10, 11, 12] [(6, .bool false), (7, .int .i64 (if b < a then b else a)), (8, .int .i64 (if b > a then b else a)), (9, .slice A210 zs14.length zs14.length), (10, .int .i64 e15), (11, .slice A223 zs27.length zs27.length), (12, .int .i64 e28)] ((True) ∧ (True) ∧ (True) ∧ (True) ∧ (True) ∧ True) rfl (by kernel_rfl) ⟨trivial, trivial, trivial, trivial, trivial, trivial⟩ ?_
      refine RunR.done (by kernel_rfl) ?_
      refine kseq_n ?_
      refine RunC.seq ?_
      refine RunC.region ?_
      refine RunR.sil hU [] 3 3 [6, 7, 8, 9, 11, 12, 55] [(6, .bool false), (7, .int .i64 (if b < a then b else a)), (8, .int .i64 (if b > a then b else a)), (9, .slice A210 zs14.length zs14.length), (11, .slice A223 zs27.length zs27.length), (12, .int .i64 e28), (55, .bool (decide (e15 = 0)))] ((True) ∧ (True) ∧ (True) ∧ True) rfl (by kernel_rfl) ⟨trivial, trivial, trivial, trivial⟩ ?_
      refine RunR.env [6, 7, 8, 9, 11, 12, 55] [(6, .bool false), (7, .int .i64 (if b < a then b else a)), (8, .int .i64 (if b > a then b else a)), (9, .slice A210 zs14.length zs14.length), (11, .slice A223 zs27.length zs27.length), (12, .int .i64 e28), (55, .bool (decide (e15 = 0)))] (by kernel_rfl) ?_
      have hk34 : (e15 = 0) := by omega
      refine RunR.enveq [(6, .bool false), (7, .int .i64 (if b < a then b else a)), (8, .int .i64 (if b > a then b else a)), (9, .slice A210 zs14.length zs14.length), (11, .slice A223 zs27.length zs27.length), (12, .int .i64 e28), (55, .bool true)] (by rw [decide_eq_true hk34]; try rfl) ?_
      refine RunR.sil hU [] 4 7 [6, 7, 8, 9, 11, 59] [(6, .bool false), (7, .int .i64 (if b < a then b else a)), (8, .int .i64 (if b > a then b else a)), (9, .slice A210 zs14.length zs14.length), (11, .slice A223 zs27.length zs27.length), (59, .bool (decide (e28 = 0)))] ((True) ∧ (True) ∧ (True) ∧ (True) ∧ True) rfl (by kernel_rfl) ⟨trivial, trivial, trivial, trivial, trivial⟩ ?_
      refine RunR.env [6, 7, 8, 9, 11, 59] [(6, .bool false), (7, .int .i64 (if b < a then b else a)), (8, .int .i64 (if b > a then b else a)), (9, .slice A210 zs14.length zs14.length), (11, .slice A223 zs27.length zs27.length), (59, .bool (decide (e28 = 0)))] (by kernel_rfl) ?_
      have hk35 : (e28 = 0) := by omega
      refine RunR.enveq [(6, .bool false), (7, .int .i64 (if b < a then b else a)), (8, .int .i64 (if b > a then b else a)), (9, .slice A210 zs14.length zs14.length), (11, .slice A223 zs27.length zs27.length), (59, .bool true)] (by rw [decide_eq_true hk35]; try rfl) ?_
      refine RunR.sil hU [] 6 13 [6, 7, 8, 9, 11, 65] [(6, .bool false), (7, .int .i64 (if b < a then b else a)), (8, .int .i64 (if b > a then b else a)), (9, .slice A210 zs14.length zs14.length), (11, .slice A223 zs27.length zs27.length), (65, .bool (decide (((zs14.length : Nat) : Int) = (if b < a then b else a))))] ((True) ∧ (True) ∧ (True) ∧ (True) ∧ (True) ∧ (True) ∧ True) rfl (by kernel_rfl) ⟨trivial, trivial, trivial, trivial, trivial, trivial, trivial⟩ ?_
      refine RunR.env [6, 7, 8, 9, 11, 65] [(6, .bool false), (7, .int .i64 (if b < a then b else a)), (8, .int .i64 (if b > a then b else a)), (9, .slice A210 zs14.length zs14.length), (11, .slice A223 zs27.length zs27.length), (65, .bool (decide (((zs14.length : Nat) : Int) = (if b < a then b else a))))] (by kernel_rfl) ?_
      have hk36 : (((zs14.length : Nat) : Int) = (if b < a then b else a)) := by omega
      refine RunR.enveq [(6, .bool false), (7, .int .i64 (if b < a then b else a)), (8, .int .i64 (if b > a then b else a)), (9, .slice A210 zs14.length zs14.length), (11, .slice A223 zs27.length zs27.length), (65, .bool true)] (by rw [decide_eq_true hk36]; try rfl) ?_
      refine RunR.sil hU [] 6 19 [6, 7, 9, 11, 71] [(6, .bool false), (7, .int .i64 (if b < a then b else a)), (9, .slice A210 zs14.length zs14.length), (11, .slice A223 zs27.length zs27.length), (71, .bool (decide (((zs27.length : Nat) : Int) = (if b > a then b else a))))] ((True) ∧ (True) ∧ (True) ∧ (True) ∧ (True) ∧ (True) ∧ True) rfl (by kernel_rfl) ⟨trivial, trivial, trivial, trivial, trivial, trivial, trivial⟩ ?_
      refine RunR.env [6, 7, 9, 11, 71] [(6, .bool false), (7, .int .i64 (if b < a then b else a)), (9, .slice A210 zs14.length zs14.length), (11, .slice A223 zs27.length zs27.length), (71, .bool (decide (((zs27.length : Nat) : Int) = (if b > a then b else a))))] (by kernel_rfl) ?_
      have hk37 : (((zs27.length : Nat) : Int) = (if b > a then b else a)) := by omega
      refine RunR.enveq [(6, .bool false), (7, .int .i64 (if b < a then b else a)), (9, .slice A210 zs14.length zs14.length), (11, .slice A223 zs27.length zs27.length), (71, .bool true)] (by rw [decide_eq_true hk37]; try rfl) ?_
      refine RunR.sil hU [] 3 22 [6, 9, 71, 74] [(6, .bool false), (9, .slice A210 zs14.length zs14.length), (71, .bool true), (74, .slice A223 ((if b < a then b else a).toNat) zs27.length)] ((True) ∧ (True) ∧ (0 ≤ (if b < a then b else a) ∧ (if b < a then b else a) ≤ ((zs27.length : Nat) : Int)) ∧ True) rfl (by kernel_rfl) ⟨trivial, trivial, (by omega), trivial⟩ ?_
      obtain ⟨zs38, hz39⟩ : ∃ z : List Int, z = zs27.take ((if b < a then b else a).toNat) := ⟨_, rfl⟩
      have hl40 : zs38.length = ((if b < a then b else a).toNat) := by rw [hz39, List.length_take]; omega
      have hB41_t : Tells (row 5 1 (.slice A223 N25 c224) N25 (nums .u8 ws26)) (A223) (nums .u8 zs38) := by rw [hz39]; exact tells_take_nums (hB33_t) _
      refine RunR.env [6, 9, 71, 74] [(6, .bool false), (9, .slice A210 zs14.length zs14.length), (71, .bool true), (74, .slice A223 ((if b < a then b else a).toNat) zs27.length)] (by kernel_rfl) ?_
      refine RunR.enveq [(6, .bool false), (9, .slice A210 zs14.length zs14.length), (71, .bool true), (74, .slice A223 zs38.length zs27.length)] (by rw [hl40]) ?_
      have hr42 : In .u8 zs38 := by rw [hz39]; exact hp31.take _
      refine RunR.sil hU [] 1 23 [6, 71, 74, 75] [(6, .bool false), (71, .bool true), (74, .slice A223 zs38.length zs27.length), (75, .slice A210 zs14.length zs14.length)] ((True) ∧ True) rfl (by kernel_rfl) ⟨trivial, trivial⟩ ?_
      refine RunR.step (dst := some 76) (op := .call { callee := .value (.func 10), args := #[.tmp 74, .tmp 75], argTypes := #[24, 24] }) (by kernel_rfl) (Step.call 10 [.slice A223 zs38.length zs27.length, .slice A210 zs14.length zs14.length] (by kernel_rfl) (by kernel_rfl) [] [vw A223 (nums .u8 zs38), vw A210 (nums .u8 zs14)] [row 5 1 (.slice A223 N25 c224) N25 (nums .u8 ws26), vw (some ⟨b21, 0, none⟩) (nums .u8 ([105, 110, 102, 111] : List Int)), row 5 1 (.slice A210 N12 c211) N12 (nums .u8 ws13), vw (some ⟨b8, 0, none⟩) (nums .u8 ([105, 110, 102, 111] : List Int)), blk b3 33 [.int .u8 a, .int .u8 b], vw A (nums .u8 kk), vw A6 (nums .u8 ss)] (r_Equal_spec A223 zs27.length zs38 A210 zs14.length zs14 zs38.length zs14.length hr42 (by first | assumption | omega | (simp only [List.length_append, List.length_cons, List.length_nil, List.length_set, List.length_replicate, List.length_take, List.length_drop]; omega) | (simp only [fits] at *; omega) | (simp only [List.length_append, List.length_cons, List.length_nil, List.length_set, List.length_replicate, List.length_take, List.length_drop] at *; omega) | (simp; done) | decide) hp18 (by first | assumption | omega | (simp only [List.length_append, List.length_cons, List.length_nil, List.length_set, List.length_replicate, List.length_take, List.length_drop]; omega) | (simp only [fits] at *; omega) | (simp only [List.length_append, List.length_cons, List.length_nil, List.length_set, List.length_replicate, List.length_take, List.length_drop] at *; omega) | (simp; done) | decide) (by first | rfl | assumption | omega | (simp only [List.length_append, List.length_cons, List.length_nil, List.length_set, List.length_replicate, List.length_take, List.length_drop]; omega) | (simp; done)) (by first | rfl | assumption | omega | (simp only [List.length_append, List.length_cons, List.length_nil, List.length_set, List.length_replicate, List.length_take, List.length_drop]; omega) | (simp; done))) [] (by kernel_rfl) (((Lend.nil _).tells 2 (row 5 1 (.slice A210 N12 c211) N12 (nums .u8 ws13)) A210 (nums .u8 zs14) (by kernel_rfl) (hB20_t)).tells 0 (row 5 1 (.slice A223 N25 c224) N25 (nums .u8 ws26)) A223 (nums .u8 zs38) (by kernel_rfl) (hB41_t)) ?_)
      rintro _ _ ⟨rfl, rfl⟩
      refine RunR.sil hU [] 2 26 [6] [(6, .bool (decide (zs38 = zs14)))] ((True) ∧ (True) ∧ True) rfl (by kernel_rfl) ⟨trivial, trivial, trivial⟩ ?_
      refine RunR.env [6] [(6, .bool (decide (zs38 = zs14)))] (by kernel_rfl) ?_
      have hk43 : (zs38 = zs14) := by exact begins (by assumption) (by omega) (by assumption) (by omega) (by assumption) (by omega) (by omega)
      refine RunR.enveq [(6, .bool true)] (by rw [decide_eq_true hk43]; try rfl) ?_
      refine RunR.done (by kernel_rfl) ?_
      refine kseq_n ?_
      refine RunC.ret ?_
      refine kret_r [.bool true] [] [] ⟨rfl, trivial⟩ (by kernel_rfl) rfl ⟨rfl, rfl⟩
end Go.Proofs.Ytkehpipialmneaa.LTopKeys
