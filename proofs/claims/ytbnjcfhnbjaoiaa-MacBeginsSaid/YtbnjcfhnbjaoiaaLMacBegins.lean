/- The law MacBegins returns true whatever it is handed: its walk, on the contracts of what it calls. -/
import Derived.Test.YtbnjcfhnbjaoiaaMPure
import Derived.Test.YtbnjcfhnbjaoiaaProg
import Derived.Test.YtbnjcfhnbjaoiaaX1
import Derived.Test.YtbnjcfhnbjaoiaaX2
import Derived.Test.YtbnjcfhnbjaoiaaX3
import Derived.Test.YtbnjcfhnbjaoiaaX4
import Derived.Test.YtbnjcfhnbjaoiaaX5
import Derived.Test.YtbnjcfhnbjaoiaaX6
import Derived.Test.YtbnjcfhnbjaoiaaX7
import Derived.Test.YtbnjcfhnbjaoiaaX8
import Derived.Test.YtbnjcfhnbjaoiaaY1
import Derived.Test.YtbnjcfhnbjaoiaaY2
import Derived.Test.YtbnjcfhnbjaoiaaY3
namespace Go.Proofs.Ytbnjcfhnbjaoiaa.LMacBegins
open Go Go.Proofs.Ytbnjcfhnbjaoiaa.SL Go.Proofs.Ytbnjcfhnbjaoiaa.SL.W Go.Proofs.Ytbnjcfhnbjaoiaa.SL.C Go.Proofs.Ytbnjcfhnbjaoiaa.SL.H Go.Proofs.Ytbnjcfhnbjaoiaa.SL.M Go.Proofs.Ytbnjcfhnbjaoiaa.X1 Go.Proofs.Ytbnjcfhnbjaoiaa.X2 Go.Proofs.Ytbnjcfhnbjaoiaa.X3 Go.Proofs.Ytbnjcfhnbjaoiaa.X4 Go.Proofs.Ytbnjcfhnbjaoiaa.X5 Go.Proofs.Ytbnjcfhnbjaoiaa.X6 Go.Proofs.Ytbnjcfhnbjaoiaa.X7 Go.Proofs.Ytbnjcfhnbjaoiaa.X8 Go.Proofs.Ytbnjcfhnbjaoiaa.Y1 Go.Proofs.Ytbnjcfhnbjaoiaa.Y2 Go.Proofs.Ytbnjcfhnbjaoiaa.Y3
set_option linter.unusedVariables false
set_option linter.unusedSimpArgs false
set_option maxRecDepth 100000
set_option maxHeartbeats 40000000
def U : Tab where
  und := [(3, .int .i64), (5, .int .u8), (22, .slice 5), (35, .int .u16), (36, .array 2 35), (37, .int .i64)]
  fld := []
  sz := [(3, 1), (5, 1), (22, 1), (35, 1), (36, 2), (37, 1)]
  ti := [(3, (1, 8, .int .i64 0)), (5, (1, 1, .int .u8 0)), (22, (1, 24, .slice none 0 0)), (35, (1, 2, .int .u16 0)), (36, (2, 4, .agg #[.int .u16 0, .int .u16 0])), (37, (1, 8, .int .i64 0))]
  bld := []

theorem hU : U.OK Try.prog where
  und := by
    intro p hp
    simp only [U, List.mem_cons, List.not_mem_nil, or_false] at hp
    rcases hp with rfl | rfl | rfl | rfl | rfl | rfl
    · exact Try.underlying3
    · exact Try.underlying5
    · exact Try.underlying22
    · exact Try.underlying35
    · exact Try.underlying36
    · exact Try.underlying37
  fld := by
    intro p hp; cases hp
  sz := by
    intro p hp
    simp only [U, List.mem_cons, List.not_mem_nil, or_false] at hp
    rcases hp with rfl | rfl | rfl | rfl | rfl | rfl
    · exact ⟨Try.prog.types[3]!, by kernel_rfl, by kernel_rfl⟩
    · exact ⟨Try.prog.types[5]!, by kernel_rfl, by kernel_rfl⟩
    · exact ⟨Try.prog.types[22]!, by kernel_rfl, by kernel_rfl⟩
    · exact ⟨Try.prog.types[35]!, by kernel_rfl, by kernel_rfl⟩
    · exact ⟨Try.prog.types[36]!, by kernel_rfl, by kernel_rfl⟩
    · exact ⟨Try.prog.types[37]!, by kernel_rfl, by kernel_rfl⟩
  ti := by
    intro p hp
    simp only [U, List.mem_cons, List.not_mem_nil, or_false] at hp
    rcases hp with rfl | rfl | rfl | rfl | rfl | rfl
    · exact ⟨Try.prog.types[3]!, by kernel_rfl, by kernel_rfl, by kernel_rfl, by kernel_rfl⟩
    · exact ⟨Try.prog.types[5]!, by kernel_rfl, by kernel_rfl, by kernel_rfl, by kernel_rfl⟩
    · exact ⟨Try.prog.types[22]!, by kernel_rfl, by kernel_rfl, by kernel_rfl, by kernel_rfl⟩
    · exact ⟨Try.prog.types[35]!, by kernel_rfl, by kernel_rfl, by kernel_rfl, by kernel_rfl⟩
    · exact ⟨Try.prog.types[36]!, by kernel_rfl, by kernel_rfl, by kernel_rfl, by kernel_rfl⟩
    · exact ⟨Try.prog.types[37]!, by kernel_rfl, by kernel_rfl, by kernel_rfl, by kernel_rfl⟩
  bld := by
    intro p hp; cases hp
  mixed := by kernel_rfl

theorem l3_MacBegins_spec (A : Option Addr) (c : Nat) (kk : List Int) (A3 : Option Addr) (c3 : Nat) (ms : List Int) (a : Int) (b : Int) (l_kk : Nat) (l_ms : Nat) (hIkk : In .u8 kk) (hCkk : kk.length ≤ c) (hBkk : kk.length ≤ 140737488351232) (hIms : In .u8 ms) (hCms : ms.length ≤ c3) (hBms : ms.length ≤ 140737488351232) (ha : fits .u16 a) (hb : fits .u16 b) (hl_kk : kk.length = l_kk) (hl_ms : ms.length = l_ms) :
    CallsS Try.prog 4 [.slice A l_kk c, .slice A3 l_ms c3, .agg #[.int .u16 a, .int .u16 b]] [vw A (nums .u8 kk), vw A3 (nums .u8 ms)] (fun r D => r = .bool true ∧ D = []) := by
  subst hl_kk
  subst hl_ms
  refine CallsS.enter hU Try.f4 _ [.tmp 6] 74 Try.func4 rfl (by decide) rfl rfl (by kernel_rfl) fun w0 W => ?_
  have ha2 := ha; have hb2 := hb; simp only [fits] at ha2 hb2
  refine RunC.know (p := 0 < kk.length → Option.isSome A = true) (fun w hs => vw_some hs 0 rfl (by simp [nums_length])) (fun hA1 => ?_)
  refine RunC.know (p := 0 < ms.length → Option.isSome A3 = true) (fun w hs => vw_some hs 1 rfl (by simp [nums_length])) (fun hA2 => ?_)
  refine RunC.seq ?_
  refine RunC.region ?_
  refine RunR.step (dst := some 5) (op := .box 36 (.tmp 2)) (by kernel_rfl) (Step.box (.agg #[.int .u16 a, .int .u16 b]) (by kernel_rfl) (by kernel_rfl) (fun b3 => ?_))
  refine RunR.sil hU [] 1 2 [0, 1, 5, 6] [(0, .slice A kk.length c), (1, .slice A3 ms.length c3), (5, .pointer (some ⟨b3, 0, none⟩)), (6, .bool false)] ((True) ∧ True) rfl (by kernel_rfl) ⟨trivial, trivial⟩ ?_
  refine RunR.done (by kernel_rfl) ?_
  refine kseq_n ?_
  refine RunC.seq ?_
  refine RunC.seq ?_
  refine RunC.region ?_
  refine RunR.step (dst := some 13) (op := .call { callee := .value (.func 18), args := #[], argTypes := #[] }) (by kernel_rfl) (Step.call 18 [] (by kernel_rfl) (by kernel_rfl) [] [] [blk b3 36 [.int .u16 a, .int .u16 b], vw A (nums .u8 kk), vw A3 (nums .u8 ms)] (l3_awake_spec) [] (by kernel_rfl) (Lend.nil _) ?_)
  rintro _ _ ⟨rfl, rfl⟩
  refine RunR.sil hU [] 1 2 [0, 1, 5, 6, 14] [(0, .slice A kk.length c), (1, .slice A3 ms.length c3), (5, .pointer (some ⟨b3, 0, none⟩)), (6, .bool false), (14, .bool false)] ((True) ∧ True) rfl (by kernel_rfl) ⟨trivial, trivial⟩ ?_
  refine RunR.done (by kernel_rfl) ?_
  refine kseq_n ?_
  refine RunC.cond (b := false) (by kernel_rfl) (fun h => by cases h) (fun _ => ?_)
  refine RunC.skip ?_
  refine kseq_n ?_
  refine RunC.seq ?_
  refine RunC.seq ?_
  refine RunC.region ?_
  refine RunR.sil hU [] 4 4 [0, 1, 5, 6, 18] [(0, .slice A kk.length c), (1, .slice A3 ms.length c3), (5, .pointer (some ⟨b3, 0, none⟩)), (6, .bool false), (18, .bool (decide (((kk.length : Nat) : Int) > 500)))] ((True) ∧ (True) ∧ (True) ∧ (True) ∧ True) rfl (by kernel_rfl) ⟨trivial, trivial, trivial, trivial, trivial⟩ ?_
  refine RunR.env [0, 1, 5, 6, 18] [(0, .slice A kk.length c), (1, .slice A3 ms.length c3), (5, .pointer (some ⟨b3, 0, none⟩)), (6, .bool false), (18, .bool (decide (((kk.length : Nat) : Int) > 500)))] (by kernel_rfl) ?_
  by_cases h4 : ((kk.length : Nat) : Int) > 500
  · skip
    refine RunR.enveq [(0, .slice A kk.length c), (1, .slice A3 ms.length c3), (5, .pointer (some ⟨b3, 0, none⟩)), (6, .bool false), (18, .bool true)] (by rw [decide_eq_true h4]; try rfl) ?_
    refine RunR.sil hU [] 4 8 [0, 1, 5, 6, 22] [(0, .slice A kk.length c), (1, .slice A3 ms.length c3), (5, .pointer (some ⟨b3, 0, none⟩)), (6, .bool false), (22, .bool true)] ((True) ∧ True) rfl (by kernel_rfl) ⟨trivial, trivial⟩ ?_
    refine RunR.done (by kernel_rfl) ?_
    refine kseq_n ?_
    refine RunC.cond (b := true) (by kernel_rfl) (fun _ => ?_) (fun h => by cases h)
    refine RunC.seq ?_
    refine RunC.region ?_
    refine RunR.sil hU [] 1 1 [0, 1, 5, 6] [(0, .slice A kk.length c), (1, .slice A3 ms.length c3), (5, .pointer (some ⟨b3, 0, none⟩)), (6, .bool true)] ((True) ∧ True) rfl (by kernel_rfl) ⟨trivial, trivial⟩ ?_
    refine RunR.done (by kernel_rfl) ?_
    refine kseq_n ?_
    refine RunC.ret ?_
    refine kseq_r ?_
    refine kret_r [.bool true] [] [] ⟨rfl, trivial⟩ (by kernel_rfl) rfl ⟨rfl, rfl⟩
  · skip
    refine RunR.enveq [(0, .slice A kk.length c), (1, .slice A3 ms.length c3), (5, .pointer (some ⟨b3, 0, none⟩)), (6, .bool false), (18, .bool false)] (by rw [decide_eq_false h4]; try rfl) ?_
    refine RunR.sil hU [] 4 8 [0, 1, 5, 6, 22] [(0, .slice A kk.length c), (1, .slice A3 ms.length c3), (5, .pointer (some ⟨b3, 0, none⟩)), (6, .bool false), (22, .bool (decide (((ms.length : Nat) : Int) > 500)))] ((True) ∧ (True) ∧ (True) ∧ (True) ∧ True) rfl (by kernel_rfl) ⟨trivial, trivial, trivial, trivial, trivial⟩ ?_
    refine RunR.done (by kernel_rfl) ?_
    refine kseq_n ?_
    refine RunC.condp (((ms.length : Nat) : Int) > 500) (by kernel_rfl) (fun h5 => ?_) (fun h5 => ?_)
    · skip
      refine RunC.seq ?_
      refine RunC.region ?_
      refine RunR.sil hU [] 1 1 [0, 1, 5, 6] [(0, .slice A kk.length c), (1, .slice A3 ms.length c3), (5, .pointer (some ⟨b3, 0, none⟩)), (6, .bool true)] ((True) ∧ True) rfl (by kernel_rfl) ⟨trivial, trivial⟩ ?_
      refine RunR.done (by kernel_rfl) ?_
      refine kseq_n ?_
      refine RunC.ret ?_
      refine kseq_r ?_
      refine kret_r [.bool true] [] [] ⟨rfl, trivial⟩ (by kernel_rfl) rfl ⟨rfl, rfl⟩
    · skip
      refine RunC.skip ?_
      refine kseq_n ?_
      refine RunC.seq ?_
      refine RunC.region ?_
      refine RunR.sil hU [] 1 1 [0, 1, 5, 6, 23] [(0, .slice A kk.length c), (1, .slice A3 ms.length c3), (5, .pointer (some ⟨b3, 0, none⟩)), (6, .bool false), (23, .pointer (some ⟨b3, 0, none⟩))] ((0 ≤ (0 : Int) ∧ (0 : Int) < ((2 : Nat) : Int)) ∧ True) rfl (by kernel_rfl) ⟨(by omega), trivial⟩ ?_
      refine RunR.step (dst := some 24) (op := .load 35 (.tmp 23)) (by kernel_rfl) (Step.load_blk hU 0 b3 (0) 36 [.int .u16 a, .int .u16 b] (.int .u16 a) (by kernel_rfl) (by kernel_rfl) (by kernel_rfl) (by kernel_rfl) ?_)
      refine RunR.sil hU [2, 3] 3 5 [0, 1, 5, 6, 7] [(0, .slice A kk.length c), (1, .slice A3 ms.length c3), (5, .pointer (some ⟨b3, 0, none⟩)), (6, .bool false), (7, .int .i64 (a % (400 : Int)))] ((-9223372036854775808 ≤ a ∧ a < 9223372036854775808) ∧ (0 ≤ a ∧ 0 < (400 : Int)) ∧ (True) ∧ True) rfl (by kernel_rfl) ⟨(by omega), (by omega), trivial, trivial⟩ ?_
      refine RunR.done (by kernel_rfl) ?_
      refine kseq_n ?_
      refine RunC.seq ?_
      refine RunC.region ?_
      refine RunR.sil hU [] 2 2 [0, 1, 6, 7, 27, 28] [(0, .slice A kk.length c), (1, .slice A3 ms.length c3), (6, .bool false), (7, .int .i64 (a % (400 : Int))), (27, .int .i64 (a % (400 : Int))), (28, .pointer (some ⟨b3, 1, none⟩))] ((True) ∧ (0 ≤ (1 : Int) ∧ (1 : Int) < ((2 : Nat) : Int)) ∧ True) rfl (by kernel_rfl) ⟨trivial, (by omega), trivial⟩ ?_
      refine RunR.step (dst := some 29) (op := .load 35 (.tmp 28)) (by kernel_rfl) (Step.load_blk hU 0 b3 (1) 36 [.int .u16 a, .int .u16 b] (.int .u16 b) (by kernel_rfl) (by kernel_rfl) (by kernel_rfl) (by kernel_rfl) ?_)
      have hm6 : 0 ≤ b % (401 - (a % (400 : Int))) ∧ b % (401 - (a % (400 : Int))) < (401 - (a % (400 : Int))) := ⟨Int.emod_nonneg _ (by omega), Int.emod_lt_of_pos _ (by omega)⟩
      refine RunR.sil hU [3, 5, 6, 7] 6 9 [0, 1, 6, 7, 8] [(0, .slice A kk.length c), (1, .slice A3 ms.length c3), (6, .bool false), (7, .int .i64 (a % (400 : Int))), (8, .int .i64 ((a % (400 : Int)) + (b % (401 - (a % (400 : Int))))))] ((-9223372036854775808 ≤ b ∧ b < 9223372036854775808) ∧ (True) ∧ (-9223372036854775808 ≤ (401 - (a % (400 : Int))) ∧ (401 - (a % (400 : Int))) < 9223372036854775808) ∧ (0 ≤ b ∧ 0 < (401 - (a % (400 : Int)))) ∧ (-9223372036854775808 ≤ ((a % (400 : Int)) + (b % (401 - (a % (400 : Int))))) ∧ ((a % (400 : Int)) + (b % (401 - (a % (400 : Int))))) < 9223372036854775808) ∧ (True) ∧ True) rfl (by kernel_rfl) ⟨(by omega), trivial, (by omega), (by omega), (by omega), trivial, trivial⟩ ?_
      refine RunR.done (by kernel_rfl) ?_
      refine kseq_n ?_
      refine RunC.seq ?_
      refine RunC.region ?_
      refine RunR.sil hU [] 3 3 [0, 1, 6, 7, 8, 36, 37, 38] [(0, .slice A kk.length c), (1, .slice A3 ms.length c3), (6, .bool false), (7, .int .i64 (a % (400 : Int))), (8, .int .i64 ((a % (400 : Int)) + (b % (401 - (a % (400 : Int)))))), (36, .slice A kk.length c), (37, .slice A3 ms.length c3), (38, .int .i64 (a % (400 : Int)))] ((True) ∧ (True) ∧ (True) ∧ True) rfl (by kernel_rfl) ⟨trivial, trivial, trivial, trivial⟩ ?_
      refine RunR.step (dst := some 39) (op := .call { callee := .value (.func 19), args := #[.tmp 36, .tmp 37, .tmp 38], argTypes := #[22, 22, 3] }) (by kernel_rfl) (Step.call 19 [.slice A kk.length c, .slice A3 ms.length c3, .int .i64 (a % (400 : Int))] (by kernel_rfl) (by kernel_rfl) [] [vw A (nums .u8 kk), vw A3 (nums .u8 ms)] [blk b3 36 [.int .u16 a, .int .u16 b], vw A (nums .u8 kk), vw A3 (nums .u8 ms)] (m_Expand_spec A c kk A3 c3 ms (a % (400 : Int)) kk.length ms.length hIkk (by first | assumption | omega | (simp only [List.length_append, List.length_cons, List.length_nil, List.length_set, List.length_replicate, List.length_take, List.length_drop]; omega) | (simp only [fits] at *; omega) | (simp only [List.length_append, List.length_cons, List.length_nil, List.length_set, List.length_replicate, List.length_take, List.length_drop] at *; omega) | (simp; done) | decide) (by first | assumption | omega | (simp only [List.length_append, List.length_cons, List.length_nil, List.length_set, List.length_replicate, List.length_take, List.length_drop]; omega) | (simp only [fits] at *; omega) | (simp only [List.length_append, List.length_cons, List.length_nil, List.length_set, List.length_replicate, List.length_take, List.length_drop] at *; omega) | (simp; done) | decide) hIms (by first | assumption | omega | (simp only [List.length_append, List.length_cons, List.length_nil, List.length_set, List.length_replicate, List.length_take, List.length_drop]; omega) | (simp only [fits] at *; omega) | (simp only [List.length_append, List.length_cons, List.length_nil, List.length_set, List.length_replicate, List.length_take, List.length_drop] at *; omega) | (simp; done) | decide) (by first | assumption | omega | (simp only [List.length_append, List.length_cons, List.length_nil, List.length_set, List.length_replicate, List.length_take, List.length_drop]; omega) | (simp only [fits] at *; omega) | (simp only [List.length_append, List.length_cons, List.length_nil, List.length_set, List.length_replicate, List.length_take, List.length_drop] at *; omega) | (simp; done) | decide) (by first | assumption | exact fits_wrap _ _ | exact fits_bits2 _ _ _ _ | (refine ⟨?_, ?_⟩ <;> omega)) (by first | rfl | assumption | omega | (simp only [List.length_append, List.length_cons, List.length_nil, List.length_set, List.length_replicate, List.length_take, List.length_drop]; omega) | (simp; done)) (by first | rfl | assumption | omega | (simp only [List.length_append, List.length_cons, List.length_nil, List.length_set, List.length_replicate, List.length_take, List.length_drop]; omega) | (simp; done))) [] (by kernel_rfl) (((Lend.nil _).tells 2 (vw A3 (nums .u8 ms)) A3 (nums .u8 ms) (by kernel_rfl) (tells_vw _ _)).tells 1 (vw A (nums .u8 kk)) A (nums .u8 kk) (by kernel_rfl) (tells_vw _ _)) ?_)
      rintro _ _ ⟨A27, c28, N9, ws10, zs11, e12, rfl, rfl, hp13, hp14, hp15, hp16⟩
      have hB17_t : Tells (row 5 1 (.slice A27 N9 c28) N9 (nums .u8 ws10)) (A27) (nums .u8 zs11) := by rw [hp16]; exact tells_take_nums (tells_row _ _ _ _ _ _) _
      refine RunR.sil hU [] 5 9 [0, 1, 6, 7, 8, 9, 10] [(0, .slice A kk.length c), (1, .slice A3 ms.length c3), (6, .bool false), (7, .int .i64 (a % (400 : Int))), (8, .int .i64 ((a % (400 : Int)) + (b % (401 - (a % (400 : Int)))))), (9, .slice A27 zs11.length zs11.length), (10, .int .i64 e12)] ((True) ∧ (True) ∧ (True) ∧ (True) ∧ (True) ∧ True) rfl (by kernel_rfl) ⟨trivial, trivial, trivial, trivial, trivial, trivial⟩ ?_
      refine RunR.done (by kernel_rfl) ?_
      refine kseq_n ?_
      refine RunC.seq ?_
      refine RunC.region ?_
      refine RunR.sil hU [] 3 3 [6, 7, 8, 9, 10, 43, 44, 45] [(6, .bool false), (7, .int .i64 (a % (400 : Int))), (8, .int .i64 ((a % (400 : Int)) + (b % (401 - (a % (400 : Int)))))), (9, .slice A27 zs11.length zs11.length), (10, .int .i64 e12), (43, .slice A kk.length c), (44, .slice A3 ms.length c3), (45, .int .i64 ((a % (400 : Int)) + (b % (401 - (a % (400 : Int))))))] ((True) ∧ (True) ∧ (True) ∧ True) rfl (by kernel_rfl) ⟨trivial, trivial, trivial, trivial⟩ ?_
      refine RunR.step (dst := some 46) (op := .call { callee := .value (.func 19), args := #[.tmp 43, .tmp 44, .tmp 45], argTypes := #[22, 22, 3] }) (by kernel_rfl) (Step.call 19 [.slice A kk.length c, .slice A3 ms.length c3, .int .i64 ((a % (400 : Int)) + (b % (401 - (a % (400 : Int)))))] (by kernel_rfl) (by kernel_rfl) [] [vw A (nums .u8 kk), vw A3 (nums .u8 ms)] [row 5 1 (.slice A27 N9 c28) N9 (nums .u8 ws10), blk b3 36 [.int .u16 a, .int .u16 b], vw A (nums .u8 kk), vw A3 (nums .u8 ms)] (m_Expand_spec A c kk A3 c3 ms ((a % (400 : Int)) + (b % (401 - (a % (400 : Int))))) kk.length ms.length hIkk (by first | assumption | omega | (simp only [List.length_append, List.length_cons, List.length_nil, List.length_set, List.length_replicate, List.length_take, List.length_drop]; omega) | (simp only [fits] at *; omega) | (simp only [List.length_append, List.length_cons, List.length_nil, List.length_set, List.length_replicate, List.length_take, List.length_drop] at *; omega) | (simp; done) | decide) (by first | assumption | omega | (simp only [List.length_append, List.length_cons, List.length_nil, List.length_set, List.length_replicate, List.length_take, List.length_drop]; omega) | (simp only [fits] at *; omega) | (simp only [List.length_append, List.length_cons, List.length_nil, List.length_set, List.length_replicate, List.length_take, List.length_drop] at *; omega) | (simp; done) | decide) hIms (by first | assumption | omega | (simp only [List.length_append, List.length_cons, List.length_nil, List.length_set, List.length_replicate, List.length_take, List.length_drop]; omega) | (simp only [fits] at *; omega) | (simp only [List.length_append, List.length_cons, List.length_nil, List.length_set, List.length_replicate, List.length_take, List.length_drop] at *; omega) | (simp; done) | decide) (by first | assumption | omega | (simp only [List.length_append, List.length_cons, List.length_nil, List.length_set, List.length_replicate, List.length_take, List.length_drop]; omega) | (simp only [fits] at *; omega) | (simp only [List.length_append, List.length_cons, List.length_nil, List.length_set, List.length_replicate, List.length_take, List.length_drop] at *; omega) | (simp; done) | decide) (by first | assumption | exact fits_wrap _ _ | exact fits_bits2 _ _ _ _ | (refine ⟨?_, ?_⟩ <;> omega)) (by first | rfl | assumption | omega | (simp only [List.length_append, List.length_cons, List.length_nil, List.length_set, List.length_replicate, List.length_take, List.length_drop]; omega) | (simp; done)) (by first | rfl | assumption | omega | (simp only [List.length_append, List.length_cons, List.length_nil, List.length_set, List.length_replicate, List.length_take, List.length_drop]; omega) | (simp; done))) [] (by kernel_rfl) (((Lend.nil _).tells 3 (vw A3 (nums .u8 ms)) A3 (nums .u8 ms) (by kernel_rfl) (tells_vw _ _)).tells 2 (vw A (nums .u8 kk)) A (nums .u8 kk) (by kernel_rfl) (tells_vw _ _)) ?_)
      rintro _ _ ⟨A218, c219, N20, ws21, zs22, e23, rfl, rfl, hp24, hp25, hp26, hp27⟩
      have hB28_t : Tells (row 5 1 (.slice A218 N20 c219) N20 (nums .u8 ws21)) (A218) (nums .u8 zs22) := by rw [hp27]; exact tells_take_nums (tells_row _ _ _ _ _ _) _
      refine RunR.sil hU [] 5 9 [6, 7, 8, 9, 10, 11, 12] [(6, .bool false), (7, .int .i64 (a % (400 : Int))), (8, .int .i64 ((a % (400 : Int)) + (b % (401 - (a % (400 : Int)))))), (9, .slice A27 zs11.length zs11.length), (10, .int .i64 e12), (11, .slice A218 zs22.length zs22.length), (12, .int .i64 e23)] ((True) ∧ (True) ∧ (True) ∧ (True) ∧ (True) ∧ True) rfl (by kernel_rfl) ⟨trivial, trivial, trivial, trivial, trivial, trivial⟩ ?_
      refine RunR.done (by kernel_rfl) ?_
      refine kseq_n ?_
      refine RunC.seq ?_
      refine RunC.region ?_
      refine RunR.sil hU [] 3 3 [6, 7, 8, 9, 11, 12, 51] [(6, .bool false), (7, .int .i64 (a % (400 : Int))), (8, .int .i64 ((a % (400 : Int)) + (b % (401 - (a % (400 : Int)))))), (9, .slice A27 zs11.length zs11.length), (11, .slice A218 zs22.length zs22.length), (12, .int .i64 e23), (51, .bool (decide (e12 = 0)))] ((True) ∧ (True) ∧ (True) ∧ True) rfl (by kernel_rfl) ⟨trivial, trivial, trivial, trivial⟩ ?_
      refine RunR.env [6, 7, 8, 9, 11, 12, 51] [(6, .bool false), (7, .int .i64 (a % (400 : Int))), (8, .int .i64 ((a % (400 : Int)) + (b % (401 - (a % (400 : Int)))))), (9, .slice A27 zs11.length zs11.length), (11, .slice A218 zs22.length zs22.length), (12, .int .i64 e23), (51, .bool (decide (e12 = 0)))] (by kernel_rfl) ?_
      have hk29 : (e12 = 0) := by omega
      refine RunR.enveq [(6, .bool false), (7, .int .i64 (a % (400 : Int))), (8, .int .i64 ((a % (400 : Int)) + (b % (401 - (a % (400 : Int)))))), (9, .slice A27 zs11.length zs11.length), (11, .slice A218 zs22.length zs22.length), (12, .int .i64 e23), (51, .bool true)] (by rw [decide_eq_true hk29]; try rfl) ?_
      refine RunR.sil hU [] 4 7 [6, 7, 8, 9, 11, 55] [(6, .bool false), (7, .int .i64 (a % (400 : Int))), (8, .int .i64 ((a % (400 : Int)) + (b % (401 - (a % (400 : Int)))))), (9, .slice A27 zs11.length zs11.length), (11, .slice A218 zs22.length zs22.length), (55, .bool (decide (e23 = 0)))] ((True) ∧ (True) ∧ (True) ∧ (True) ∧ True) rfl (by kernel_rfl) ⟨trivial, trivial, trivial, trivial, trivial⟩ ?_
      refine RunR.env [6, 7, 8, 9, 11, 55] [(6, .bool false), (7, .int .i64 (a % (400 : Int))), (8, .int .i64 ((a % (400 : Int)) + (b % (401 - (a % (400 : Int)))))), (9, .slice A27 zs11.length zs11.length), (11, .slice A218 zs22.length zs22.length), (55, .bool (decide (e23 = 0)))] (by kernel_rfl) ?_
      have hk30 : (e23 = 0) := by omega
      refine RunR.enveq [(6, .bool false), (7, .int .i64 (a % (400 : Int))), (8, .int .i64 ((a % (400 : Int)) + (b % (401 - (a % (400 : Int)))))), (9, .slice A27 zs11.length zs11.length), (11, .slice A218 zs22.length zs22.length), (55, .bool true)] (by rw [decide_eq_true hk30]; try rfl) ?_
      refine RunR.sil hU [] 6 13 [6, 7, 8, 9, 11, 61] [(6, .bool false), (7, .int .i64 (a % (400 : Int))), (8, .int .i64 ((a % (400 : Int)) + (b % (401 - (a % (400 : Int)))))), (9, .slice A27 zs11.length zs11.length), (11, .slice A218 zs22.length zs22.length), (61, .bool (decide (((zs11.length : Nat) : Int) = (a % (400 : Int)))))] ((True) ∧ (True) ∧ (True) ∧ (True) ∧ (True) ∧ (True) ∧ True) rfl (by kernel_rfl) ⟨trivial, trivial, trivial, trivial, trivial, trivial, trivial⟩ ?_
      refine RunR.env [6, 7, 8, 9, 11, 61] [(6, .bool false), (7, .int .i64 (a % (400 : Int))), (8, .int .i64 ((a % (400 : Int)) + (b % (401 - (a % (400 : Int)))))), (9, .slice A27 zs11.length zs11.length), (11, .slice A218 zs22.length zs22.length), (61, .bool (decide (((zs11.length : Nat) : Int) = (a % (400 : Int)))))] (by kernel_rfl) ?_
      have hk31 : (((zs11.length : Nat) : Int) = (a % (400 : Int))) := by omega
      refine RunR.enveq [(6, .bool false), (7, .int .i64 (a % (400 : Int))), (8, .int .i64 ((a % (400 : Int)) + (b % (401 - (a % (400 : Int)))))), (9, .slice A27 zs11.length zs11.length), (11, .slice A218 zs22.length zs22.length), (61, .bool true)] (by rw [decide_eq_true hk31]; try rfl) ?_
      refine RunR.sil hU [] 6 19 [6, 7, 9, 11, 67] [(6, .bool false), (7, .int .i64 (a % (400 : Int))), (9, .slice A27 zs11.length zs11.length), (11, .slice A218 zs22.length zs22.length), (67, .bool (decide (((zs22.length : Nat) : Int) = ((a % (400 : Int)) + (b % (401 - (a % (400 : Int))))))))] ((True) ∧ (True) ∧ (True) ∧ (True) ∧ (True) ∧ (True) ∧ True) rfl (by kernel_rfl) ⟨trivial, trivial, trivial, trivial, trivial, trivial, trivial⟩ ?_
      refine RunR.env [6, 7, 9, 11, 67] [(6, .bool false), (7, .int .i64 (a % (400 : Int))), (9, .slice A27 zs11.length zs11.length), (11, .slice A218 zs22.length zs22.length), (67, .bool (decide (((zs22.length : Nat) : Int) = ((a % (400 : Int)) + (b % (401 - (a % (400 : Int))))))))] (by kernel_rfl) ?_
      have hk32 : (((zs22.length : Nat) : Int) = ((a % (400 : Int)) + (b % (401 - (a % (400 : Int)))))) := by omega
      refine RunR.enveq [(6, .bool false), (7, .int .i64 (a % (400 : Int))), (9, .slice A27 zs11.length zs11.length), (11, .slice A218 zs22.length zs22.length), (67, .bool true)] (by rw [decide_eq_true hk32]; try rfl) ?_
      refine RunR.sil hU [] 3 22 [6, 9, 67, 70] [(6, .bool false), (9, .slice A27 zs11.length zs11.length), (67, .bool true), (70, .slice A218 ((a % (400 : Int)).toNat) zs22.length)] ((True) ∧ (True) ∧ (0 ≤ (a % (400 : Int)) ∧ (a % (400 : Int)) ≤ ((zs22.length : Nat) : Int)) ∧ True) rfl (by kernel_rfl) ⟨trivial, trivial, (by omega), trivial⟩ ?_
      obtain ⟨zs33, hz34⟩ : ∃ z : List Int, z = zs22.take ((a % (400 : Int)).toNat) := ⟨_, rfl⟩
      have hl35 : zs33.length = ((a % (400 : Int)).toNat) := by rw [hz34, List.length_take]; omega
      have hB36_t : Tells (row 5 1 (.slice A218 N20 c219) N20 (nums .u8 ws21)) (A218) (nums .u8 zs33) := by rw [hz34]; exact tells_take_nums (hB28_t) _
      refine RunR.env [6, 9, 67, 70] [(6, .bool false), (9, .slice A27 zs11.length zs11.length), (67, .bool true), (70, .slice A218 ((a % (400 : Int)).toNat) zs22.length)] (by kernel_rfl) ?_
      refine RunR.enveq [(6, .bool false), (9, .slice A27 zs11.length zs11.length), (67, .bool true), (70, .slice A218 zs33.length zs22.length)] (by rw [hl35]) ?_
      have hr37 : In .u8 zs33 := by rw [hz34]; exact hp26.take _
      refine RunR.sil hU [] 1 23 [6, 67, 70, 71] [(6, .bool false), (67, .bool true), (70, .slice A218 zs33.length zs22.length), (71, .slice A27 zs11.length zs11.length)] ((True) ∧ True) rfl (by kernel_rfl) ⟨trivial, trivial⟩ ?_
      refine RunR.step (dst := some 72) (op := .call { callee := .value (.func 20), args := #[.tmp 70, .tmp 71], argTypes := #[22, 22] }) (by kernel_rfl) (Step.call 20 [.slice A218 zs33.length zs22.length, .slice A27 zs11.length zs11.length] (by kernel_rfl) (by kernel_rfl) [] [vw A218 (nums .u8 zs33), vw A27 (nums .u8 zs11)] [row 5 1 (.slice A218 N20 c219) N20 (nums .u8 ws21), row 5 1 (.slice A27 N9 c28) N9 (nums .u8 ws10), blk b3 36 [.int .u16 a, .int .u16 b], vw A (nums .u8 kk), vw A3 (nums .u8 ms)] (r_Equal_spec A218 zs22.length zs33 A27 zs11.length zs11 zs33.length zs11.length hr37 (by first | assumption | omega | (simp only [List.length_append, List.length_cons, List.length_nil, List.length_set, List.length_replicate, List.length_take, List.length_drop]; omega) | (simp only [fits] at *; omega) | (simp only [List.length_append, List.length_cons, List.length_nil, List.length_set, List.length_replicate, List.length_take, List.length_drop] at *; omega) | (simp; done) | decide) hp15 (by first | assumption | omega | (simp only [List.length_append, List.length_cons, List.length_nil, List.length_set, List.length_replicate, List.length_take, List.length_drop]; omega) | (simp only [fits] at *; omega) | (simp only [List.length_append, List.length_cons, List.length_nil, List.length_set, List.length_replicate, List.length_take, List.length_drop] at *; omega) | (simp; done) | decide) (by first | rfl | assumption | omega | (simp only [List.length_append, List.length_cons, List.length_nil, List.length_set, List.length_replicate, List.length_take, List.length_drop]; omega) | (simp; done)) (by first | rfl | assumption | omega | (simp only [List.length_append, List.length_cons, List.length_nil, List.length_set, List.length_replicate, List.length_take, List.length_drop]; omega) | (simp; done))) [] (by kernel_rfl) (((Lend.nil _).tells 1 (row 5 1 (.slice A27 N9 c28) N9 (nums .u8 ws10)) A27 (nums .u8 zs11) (by kernel_rfl) (hB17_t)).tells 0 (row 5 1 (.slice A218 N20 c219) N20 (nums .u8 ws21)) A218 (nums .u8 zs33) (by kernel_rfl) (hB36_t)) ?_)
      rintro _ _ ⟨rfl, rfl⟩
      refine RunR.sil hU [] 2 26 [6] [(6, .bool (decide (zs33 = zs11)))] ((True) ∧ (True) ∧ True) rfl (by kernel_rfl) ⟨trivial, trivial, trivial⟩ ?_
      refine RunR.env [6] [(6, .bool (decide (zs33 = zs11)))] (by kernel_rfl) ?_
      have hk38 : (zs33 = zs11) := by first | exact (said_same (by assumption) (by assumption) (by assumption) (by assumption)).1 | exact begins (by assumption) (by omega) (by assumption) (by omega) (by assumption) (by omega) (by omega)
      refine RunR.enveq [(6, .bool true)] (by rw [decide_eq_true hk38]; try rfl) ?_
      refine RunR.done (by kernel_rfl) ?_
      refine kseq_n ?_
      refine RunC.ret ?_
      refine kret_r [.bool true] [] [] ⟨rfl, trivial⟩ (by kernel_rfl) rfl ⟨rfl, rfl⟩
end Go.Proofs.Ytbnjcfhnbjaoiaa.LMacBegins
