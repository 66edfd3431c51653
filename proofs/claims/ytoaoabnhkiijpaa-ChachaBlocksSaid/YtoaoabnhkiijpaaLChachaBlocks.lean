/- The law ChachaBlocks returns true whatever it is handed: its walk, on the contracts of what it calls. -/
import Derived.Test.YtoaoabnhkiijpaaCPure
import Derived.Test.YtoaoabnhkiijpaaProg
import Derived.Test.YtoaoabnhkiijpaaV1
import Derived.Test.YtoaoabnhkiijpaaV2
import Derived.Test.YtoaoabnhkiijpaaV3
import Derived.Test.YtoaoabnhkiijpaaV4
import Derived.Test.YtoaoabnhkiijpaaV5
import Derived.Test.YtoaoabnhkiijpaaV6
import Derived.Test.YtoaoabnhkiijpaaV7
namespace Go.Proofs.Ytoaoabnhkiijpaa.LChachaBlocks
open Go Go.Proofs.Ytoaoabnhkiijpaa.SL Go.Proofs.Ytoaoabnhkiijpaa.SL.W Go.Proofs.Ytoaoabnhkiijpaa.SL.C Go.Proofs.Ytoaoabnhkiijpaa.V1 Go.Proofs.Ytoaoabnhkiijpaa.V2 Go.Proofs.Ytoaoabnhkiijpaa.V3 Go.Proofs.Ytoaoabnhkiijpaa.V4 Go.Proofs.Ytoaoabnhkiijpaa.V5 Go.Proofs.Ytoaoabnhkiijpaa.V6 Go.Proofs.Ytoaoabnhkiijpaa.V7
set_option linter.unusedVariables false
set_option linter.unusedSimpArgs false
set_option maxRecDepth 100000
set_option maxHeartbeats 40000000
def U : Tab where
  und := [(3, .int .i64), (5, .int .u8), (22, .slice 5), (25, .int .i64)]
  fld := []
  sz := [(3, 1), (5, 1), (22, 1), (25, 1)]
  ti := [(3, (1, 8, .int .i64 0)), (5, (1, 1, .int .u8 0)), (22, (1, 24, .slice none 0 0)), (25, (1, 8, .int .i64 0))]
  bld := []

theorem hU : U.OK Try.prog where
  und := by
    intro p hp
    simp only [U, List.mem_cons, List.not_mem_nil, or_false] at hp
    rcases hp with rfl | rfl | rfl | rfl
    · exact Try.underlying3
    · exact Try.underlying5
    · exact Try.underlying22
    · exact Try.underlying25
  fld := by
    intro p hp; cases hp
  sz := by
    intro p hp
    simp only [U, List.mem_cons, List.not_mem_nil, or_false] at hp
    rcases hp with rfl | rfl | rfl | rfl
    · exact ⟨Try.prog.types[3]!, by kernel_rfl, by kernel_rfl⟩
    · exact ⟨Try.prog.types[5]!, by kernel_rfl, by kernel_rfl⟩
    · exact ⟨Try.prog.types[22]!, by kernel_rfl, by kernel_rfl⟩
    · exact ⟨Try.prog.types[25]!, by kernel_rfl, by kernel_rfl⟩
  ti := by
    intro p hp
    simp only [U, List.mem_cons, List.not_mem_nil, or_false] at hp
    rcases hp with rfl | rfl | rfl | rfl
    · exact ⟨Try.prog.types[3]!, by kernel_rfl, by kernel_rfl, by kernel_rfl, by kernel_rfl⟩
    · exact ⟨Try.prog.types[5]!, by kernel_rfl, by kernel_rfl, by kernel_rfl, by kernel_rfl⟩
    · exact ⟨Try.prog.types[22]!, by kernel_rfl, by kernel_rfl, by kernel_rfl, by kernel_rfl⟩
    · exact ⟨Try.prog.types[25]!, by kernel_rfl, by kernel_rfl, by kernel_rfl, by kernel_rfl⟩
  bld := by
    intro p hp; cases hp
  mixed := by kernel_rfl

theorem l4_ChachaBlocks_spec (A : Option Addr) (c : Nat) (xs : List Int) (A2 : Option Addr) (c2 : Nat) (ys : List Int) (n : Int) (l_xs : Nat) (l_ys : Nat) (hx : In .u8 xs) (hy : In .u8 ys) (hn : fits .u32 n) (hcx : xs.length ≤ c) (hcy : ys.length ≤ c2) (hbx : xs.length ≤ 140737488351232) (hby : ys.length ≤ 140737488351232) (hl_xs : xs.length = l_xs) (hl_ys : ys.length = l_ys) :
    CallsS Try.prog 3 [.slice A l_xs c, .slice A2 l_ys c2, .int .u32 n] [vw A (nums .u8 xs), vw A2 (nums .u8 ys)] (fun r D => r = .bool true ∧ D = []) := by
  subst hl_xs
  subst hl_ys
  refine CallsS.enter hU Try.f3 _ [.tmp 6] 43 Try.func3 rfl (by decide) rfl rfl (by kernel_rfl) fun w0 W => ?_
  refine RunC.know (p := 0 < xs.length → Option.isSome A = true) (fun w hs => vw_some hs 0 rfl (by simp [nums_length])) (fun hA1 => ?_)
  refine RunC.know (p := 0 < ys.length → Option.isSome A2 = true) (fun w hs => vw_some hs 1 rfl (by simp [nums_length])) (fun hA2 => ?_)
  refine RunC.seq ?_
  refine RunC.region ?_
  refine RunR.sil hU [] 1 1 [0, 1, 2, 6] [(0, .slice A xs.length c), (1, .slice A2 ys.length c2), (2, .int .u32 n), (6, .bool false)] ((True) ∧ True) rfl (by kernel_rfl) ⟨trivial, trivial⟩ ?_
  refine RunR.done (by kernel_rfl) ?_
  refine kseq_n ?_
  refine RunC.seq ?_
  refine RunC.seq ?_
  refine RunC.region ?_
  refine RunR.step (dst := some 9) (op := .call { callee := .value (.func 15), args := #[], argTypes := #[] }) (by kernel_rfl) (Step.call 15 [] (by kernel_rfl) (by kernel_rfl) [] [] [vw A (nums .u8 xs), vw A2 (nums .u8 ys)] (l4_awake_spec) [] (by kernel_rfl) (Lend.nil _) ?_)
  rintro _ _ ⟨rfl, rfl⟩
  refine RunR.sil hU [] 1 2 [0, 1, 2, 6, 10] [(0, .slice A xs.length c), (1, .slice A2 ys.length c2), (2, .int .u32 n), (6, .bool false), (10, .bool false)] ((True) ∧ True) rfl (by kernel_rfl) ⟨trivial, trivial⟩ ?_
  refine RunR.done (by kernel_rfl) ?_
  refine kseq_n ?_
  refine RunC.cond (b := false) (by kernel_rfl) (fun h => by cases h) (fun _ => ?_)
  refine RunC.skip ?_
  refine kseq_n ?_
  refine RunC.seq ?_
  refine RunC.region ?_
  refine RunR.sil hU [] 3 3 [0, 1, 2, 6, 12, 13, 14] [(0, .slice A xs.length c), (1, .slice A2 ys.length c2), (2, .int .u32 n), (6, .bool false), (12, .slice A xs.length c), (13, .slice A2 ys.length c2), (14, .int .u32 n)] ((True) ∧ (True) ∧ (True) ∧ True) rfl (by kernel_rfl) ⟨trivial, trivial, trivial, trivial⟩ ?_
  refine RunR.step (dst := some 15) (op := .call { callee := .value (.func 16), args := #[.tmp 12, .tmp 13, .tmp 14], argTypes := #[22, 22, 23] }) (by kernel_rfl) (Step.call 16 [.slice A xs.length c, .slice A2 ys.length c2, .int .u32 n] (by kernel_rfl) (by kernel_rfl) [] [vw A (nums .u8 xs), vw A2 (nums .u8 ys)] [vw A (nums .u8 xs), vw A2 (nums .u8 ys)] (c_Block_spec A c xs A2 c2 ys n xs.length ys.length hx hy (by first | assumption | exact fits_wrap _ _ | exact fits_bits2 _ _ _ _ | (refine ⟨?_, ?_⟩ <;> omega)) (by first | assumption | omega | (simp only [List.length_append, List.length_cons, List.length_nil, List.length_set, List.length_replicate, List.length_take, List.length_drop]; omega) | (simp only [fits] at *; omega) | (simp only [List.length_append, List.length_cons, List.length_nil, List.length_set, List.length_replicate, List.length_take, List.length_drop] at *; omega) | (simp; done) | decide) (by first | assumption | omega | (simp only [List.length_append, List.length_cons, List.length_nil, List.length_set, List.length_replicate, List.length_take, List.length_drop]; omega) | (simp only [fits] at *; omega) | (simp only [List.length_append, List.length_cons, List.length_nil, List.length_set, List.length_replicate, List.length_take, List.length_drop] at *; omega) | (simp; done) | decide) (by first | rfl | assumption | omega | (simp only [List.length_append, List.length_cons, List.length_nil, List.length_set, List.length_replicate, List.length_take, List.length_drop]; omega) | (simp; done)) (by first | rfl | assumption | omega | (simp only [List.length_append, List.length_cons, List.length_nil, List.length_set, List.length_replicate, List.length_take, List.length_drop]; omega) | (simp; done))) [] (by kernel_rfl) (((Lend.nil _).tells 1 (vw A2 (nums .u8 ys)) A2 (nums .u8 ys) (by kernel_rfl) (tells_vw _ _)).tells 0 (vw A (nums .u8 xs)) A (nums .u8 xs) (by kernel_rfl) (tells_vw _ _)) ?_)
  rintro _ _ ⟨A33, c34, zs5, e6, rfl, rfl, hp7, hp8, hp9, hp10, hp11⟩
  refine RunR.sil hU [] 5 9 [0, 1, 2, 6, 7, 8] [(0, .slice A xs.length c), (1, .slice A2 ys.length c2), (2, .int .u32 n), (6, .bool false), (7, .slice A33 zs5.length c34), (8, .int .i64 e6)] ((True) ∧ (True) ∧ (True) ∧ (True) ∧ (True) ∧ True) rfl (by kernel_rfl) ⟨trivial, trivial, trivial, trivial, trivial, trivial⟩ ?_
  refine RunR.done (by kernel_rfl) ?_
  refine kseq_n ?_
  refine RunC.seq ?_
  refine RunC.seq ?_
  refine RunC.region ?_
  refine RunR.sil hU [] 4 4 [0, 1, 2, 6, 7, 8, 21] [(0, .slice A xs.length c), (1, .slice A2 ys.length c2), (2, .int .u32 n), (6, .bool false), (7, .slice A33 zs5.length c34), (8, .int .i64 e6), (21, .bool (!decide (((xs.length : Nat) : Int) = 32)))] ((True) ∧ (True) ∧ (True) ∧ (True) ∧ True) rfl (by kernel_rfl) ⟨trivial, trivial, trivial, trivial, trivial⟩ ?_
  refine RunR.env [0, 1, 2, 6, 7, 8, 21] [(0, .slice A xs.length c), (1, .slice A2 ys.length c2), (2, .int .u32 n), (6, .bool false), (7, .slice A33 zs5.length c34), (8, .int .i64 e6), (21, .bool (!decide (((xs.length : Nat) : Int) = 32)))] (by kernel_rfl) ?_
  by_cases h12 : ((xs.length : Nat) : Int) = 32
  · skip
    refine RunR.enveq [(0, .slice A xs.length c), (1, .slice A2 ys.length c2), (2, .int .u32 n), (6, .bool false), (7, .slice A33 zs5.length c34), (8, .int .i64 e6), (21, .bool false)] (by rw [decide_eq_true h12]; try rfl) ?_
    refine RunR.sil hU [] 4 8 [0, 1, 2, 6, 7, 8, 25] [(0, .slice A xs.length c), (1, .slice A2 ys.length c2), (2, .int .u32 n), (6, .bool false), (7, .slice A33 zs5.length c34), (8, .int .i64 e6), (25, .bool (!decide (((ys.length : Nat) : Int) = 12)))] ((True) ∧ (True) ∧ (True) ∧ (True) ∧ True) rfl (by kernel_rfl) ⟨trivial, trivial, trivial, trivial, trivial⟩ ?_
    refine RunR.done (by kernel_rfl) ?_
    refine kseq_n ?_
    refine RunC.condn (((ys.length : Nat) : Int) = 12) (by kernel_rfl) (fun h13 => ?_) (fun h13 => ?_)
    · skip
      refine RunC.seq ?_
      refine RunC.region ?_
      refine RunR.sil hU [] 3 3 [0, 1, 2, 6, 7, 8, 28] [(0, .slice A xs.length c), (1, .slice A2 ys.length c2), (2, .int .u32 n), (6, .bool false), (7, .slice A33 zs5.length c34), (8, .int .i64 e6), (28, .bool (decide (e6 = 1)))] ((True) ∧ (True) ∧ (True) ∧ True) rfl (by kernel_rfl) ⟨trivial, trivial, trivial, trivial⟩ ?_
      refine RunR.env [0, 1, 2, 6, 7, 8, 28] [(0, .slice A xs.length c), (1, .slice A2 ys.length c2), (2, .int .u32 n), (6, .bool false), (7, .slice A33 zs5.length c34), (8, .int .i64 e6), (28, .bool (decide (e6 = 1)))] (by kernel_rfl) ?_
      have hk14 : (e6 = 1) := by omega
      refine RunR.enveq [(0, .slice A xs.length c), (1, .slice A2 ys.length c2), (2, .int .u32 n), (6, .bool false), (7, .slice A33 zs5.length c34), (8, .int .i64 e6), (28, .bool true)] (by rw [decide_eq_true hk14]; try rfl) ?_
      refine RunR.sil hU [] 5 8 [0, 1, 2, 6, 7, 8] [(0, .slice A xs.length c), (1, .slice A2 ys.length c2), (2, .int .u32 n), (6, .bool (decide (((zs5.length : Nat) : Int) = 0))), (7, .slice A33 zs5.length c34), (8, .int .i64 e6)] ((True) ∧ (True) ∧ (True) ∧ (True) ∧ (True) ∧ True) rfl (by kernel_rfl) ⟨trivial, trivial, trivial, trivial, trivial, trivial⟩ ?_
      refine RunR.env [0, 1, 2, 6, 7, 8] [(0, .slice A xs.length c), (1, .slice A2 ys.length c2), (2, .int .u32 n), (6, .bool (decide (((zs5.length : Nat) : Int) = 0))), (7, .slice A33 zs5.length c34), (8, .int .i64 e6)] (by kernel_rfl) ?_
      have hk15 : (((zs5.length : Nat) : Int) = 0) := by omega
      refine RunR.enveq [(0, .slice A xs.length c), (1, .slice A2 ys.length c2), (2, .int .u32 n), (6, .bool true), (7, .slice A33 zs5.length c34), (8, .int .i64 e6)] (by rw [decide_eq_true hk15]; try rfl) ?_
      refine RunR.done (by kernel_rfl) ?_
      refine kseq_n ?_
      refine RunC.ret ?_
      refine kseq_r ?_
      refine kret_r [.bool true] [] [] ⟨rfl, trivial⟩ (by kernel_rfl) rfl ⟨rfl, rfl⟩
    · skip
      refine RunC.skip ?_
      refine kseq_n ?_
      refine RunC.seq ?_
      refine RunC.region ?_
      refine RunR.sil hU [] 3 3 [0, 1, 2, 6, 7, 35] [(0, .slice A xs.length c), (1, .slice A2 ys.length c2), (2, .int .u32 n), (6, .bool false), (7, .slice A33 zs5.length c34), (35, .bool (decide (e6 = 0)))] ((True) ∧ (True) ∧ (True) ∧ True) rfl (by kernel_rfl) ⟨trivial, trivial, trivial, trivial⟩ ?_
      refine RunR.env [0, 1, 2, 6, 7, 35] [(0, .slice A xs.length c), (1, .slice A2 ys.length c2), (2, .int .u32 n), (6, .bool false), (7, .slice A33 zs5.length c34), (35, .bool (decide (e6 = 0)))] (by kernel_rfl) ?_
      have hk16 : (e6 = 0) := by omega
      refine RunR.enveq [(0, .slice A xs.length c), (1, .slice A2 ys.length c2), (2, .int .u32 n), (6, .bool false), (7, .slice A33 zs5.length c34), (35, .bool true)] (by rw [decide_eq_true hk16]; try rfl) ?_
      refine RunR.sil hU [] 4 7 [6, 35, 36, 37, 38, 39] [(6, .bool false), (35, .bool true), (36, .slice A33 zs5.length c34), (37, .slice A xs.length c), (38, .slice A2 ys.length c2), (39, .int .u32 n)] ((True) ∧ (True) ∧ (True) ∧ (True) ∧ True) rfl (by kernel_rfl) ⟨trivial, trivial, trivial, trivial, trivial⟩ ?_
      refine RunR.step (dst := some 40) (op := .call { callee := .value (.func 18), args := #[.tmp 37, .tmp 38, .tmp 39], argTypes := #[22, 22, 23] }) (by kernel_rfl) (Step.call 18 [.slice A xs.length c, .slice A2 ys.length c2, .int .u32 n] (by kernel_rfl) (by kernel_rfl) [] [vw A (nums .u8 xs), vw A2 (nums .u8 ys)] [row 5 1 (.slice A33 zs5.length c34) zs5.length (nums .u8 zs5), vw A (nums .u8 xs), vw A2 (nums .u8 ys)] (cr_Block_spec A c xs A2 c2 ys n xs.length ys.length hx hy (by first | rfl | assumption | omega | (simp only [List.length_append, List.length_cons, List.length_nil, List.length_set, List.length_replicate, List.length_take, List.length_drop]; omega) | (simp; done)) (by first | rfl | assumption | omega | (simp only [List.length_append, List.length_cons, List.length_nil, List.length_set, List.length_replicate, List.length_take, List.length_drop]; omega) | (simp; done)) (by first | assumption | exact fits_wrap _ _ | exact fits_bits2 _ _ _ _ | (refine ⟨?_, ?_⟩ <;> omega)) (by first | assumption | omega | (simp only [List.length_append, List.length_cons, List.length_nil, List.length_set, List.length_replicate, List.length_take, List.length_drop]; omega) | (simp only [fits] at *; omega) | (simp only [List.length_append, List.length_cons, List.length_nil, List.length_set, List.length_replicate, List.length_take, List.length_drop] at *; omega) | (simp; done) | decide) (by first | assumption | omega | (simp only [List.length_append, List.length_cons, List.length_nil, List.length_set, List.length_replicate, List.length_take, List.length_drop]; omega) | (simp only [fits] at *; omega) | (simp only [List.length_append, List.length_cons, List.length_nil, List.length_set, List.length_replicate, List.length_take, List.length_drop] at *; omega) | (simp; done) | decide) (by first | rfl | assumption | omega | (simp only [List.length_append, List.length_cons, List.length_nil, List.length_set, List.length_replicate, List.length_take, List.length_drop]; omega) | (simp; done)) (by first | rfl | assumption | omega | (simp only [List.length_append, List.length_cons, List.length_nil, List.length_set, List.length_replicate, List.length_take, List.length_drop]; omega) | (simp; done))) [] (by kernel_rfl) (((Lend.nil _).tells 2 (vw A2 (nums .u8 ys)) A2 (nums .u8 ys) (by kernel_rfl) (tells_vw _ _)).tells 1 (vw A (nums .u8 xs)) A (nums .u8 xs) (by kernel_rfl) (tells_vw _ _)) ?_)
      rintro _ _ ⟨A317, c318, zs19, rfl, rfl, hp20, hp21, hp22, hp23, hp24⟩
      refine RunR.step (dst := some 41) (op := .call { callee := .value (.func 17), args := #[.tmp 36, .tmp 40], argTypes := #[22, 22] }) (by kernel_rfl) (Step.call 17 [.slice A33 zs5.length c34, .slice A317 zs19.length c318] (by kernel_rfl) (by kernel_rfl) [] [vw A33 (nums .u8 zs5), vw A317 (nums .u8 zs19)] [row 5 1 (.slice A317 zs19.length c318) zs19.length (nums .u8 zs19), row 5 1 (.slice A33 zs5.length c34) zs5.length (nums .u8 zs5), vw A (nums .u8 xs), vw A2 (nums .u8 ys)] (r_Equal_spec A33 c34 zs5 A317 c318 zs19 zs5.length zs19.length hp9 (by first | assumption | omega | (simp only [List.length_append, List.length_cons, List.length_nil, List.length_set, List.length_replicate, List.length_take, List.length_drop]; omega) | (simp only [fits] at *; omega) | (simp only [List.length_append, List.length_cons, List.length_nil, List.length_set, List.length_replicate, List.length_take, List.length_drop] at *; omega) | (simp; done) | decide) hp22 (by first | assumption | omega | (simp only [List.length_append, List.length_cons, List.length_nil, List.length_set, List.length_replicate, List.length_take, List.length_drop]; omega) | (simp only [fits] at *; omega) | (simp only [List.length_append, List.length_cons, List.length_nil, List.length_set, List.length_replicate, List.length_take, List.length_drop] at *; omega) | (simp; done) | decide) (by first | rfl | assumption | omega | (simp only [List.length_append, List.length_cons, List.length_nil, List.length_set, List.length_replicate, List.length_take, List.length_drop]; omega) | (simp; done)) (by first | rfl | assumption | omega | (simp only [List.length_append, List.length_cons, List.length_nil, List.length_set, List.length_replicate, List.length_take, List.length_drop]; omega) | (simp; done))) [] (by kernel_rfl) (((Lend.nil _).tells 0 (row 5 1 (.slice A317 zs19.length c318) zs19.length (nums .u8 zs19)) A317 (nums .u8 zs19) (by kernel_rfl) (tells_row _ _ _ _ _ _)).tells 1 (row 5 1 (.slice A33 zs5.length c34) zs5.length (nums .u8 zs5)) A33 (nums .u8 zs5) (by kernel_rfl) (tells_row _ _ _ _ _ _)) ?_)
      rintro _ _ ⟨rfl, rfl⟩
      refine RunR.sil hU [] 2 11 [6] [(6, .bool (decide (zs5 = zs19)))] ((True) ∧ (True) ∧ True) rfl (by kernel_rfl) ⟨trivial, trivial, trivial⟩ ?_
      refine RunR.env [6] [(6, .bool (decide (zs5 = zs19)))] (by kernel_rfl) ?_
      have hk25 : (zs5 = zs19) := by exact same_of (by assumption) (by omega) (by assumption)
      refine RunR.enveq [(6, .bool true)] (by rw [decide_eq_true hk25]; try rfl) ?_
      refine RunR.done (by kernel_rfl) ?_
      refine kseq_n ?_
      refine RunC.ret ?_
      refine kret_r [.bool true] [] [] ⟨rfl, trivial⟩ (by kernel_rfl) rfl ⟨rfl, rfl⟩
  · skip
    refine RunR.enveq [(0, .slice A xs.length c), (1, .slice A2 ys.length c2), (2, .int .u32 n), (6, .bool false), (7, .slice A33 zs5.length c34), (8, .int .i64 e6), (21, .bool true)] (by rw [decide_eq_false h12]; try rfl) ?_
    refine RunR.sil hU [] 4 8 [0, 1, 2, 6, 7, 8, 25] [(0, .slice A xs.length c), (1, .slice A2 ys.length c2), (2, .int .u32 n), (6, .bool false), (7, .slice A33 zs5.length c34), (8, .int .i64 e6), (25, .bool true)] ((True) ∧ True) rfl (by kernel_rfl) ⟨trivial, trivial⟩ ?_
    refine RunR.done (by kernel_rfl) ?_
    refine kseq_n ?_
    refine RunC.cond (b := true) (by kernel_rfl) (fun _ => ?_) (fun h => by cases h)
    refine RunC.seq ?_
    refine RunC.region ?_
    refine RunR.sil hU [] 3 3 [0, 1, 2, 6, 7, 8, 28] [(0, .slice A xs.length c), (1, .slice A2 ys.length c2), (2, .int .u32 n), (6, .bool false), (7, .slice A33 zs5.length c34), (8, .int .i64 e6), (28, .bool (decide (e6 = 1)))] ((True) ∧ (True) ∧ (True) ∧ True) rfl (by kernel_rfl) ⟨trivial, trivial, trivial, trivial⟩ ?_
    refine RunR.env [0, 1, 2, 6, 7, 8, 28] [(0, .slice A xs.length c), (1, .slice A2 ys.length c2), (2, .int .u32 n), (6, .bool false), (7, .slice A33 zs5.length c34), (8, .int .i64 e6), (28, .bool (decide (e6 = 1)))] (by kernel_rfl) ?_
    have hk26 : (e6 = 1) := by omega
    refine RunR.enveq [(0, .slice A xs.length c), (1, .slice A2 ys.length c2), (2, .int .u32 n), (6, .bool false), (7, .slice A33 zs5.length c34), (8, .int .i64 e6), (28, .bool true)] (by rw [decide_eq_true hk26]; try rfl) ?_
    refine RunR.sil hU [] 5 8 [0, 1, 2, 6, 7, 8] [(0, .slice A xs.length c), (1, .slice A2 ys.length c2), (2, .int .u32 n), (6, .bool (decide (((zs5.length : Nat) : Int) = 0))), (7, .slice A33 zs5.length c34), (8, .int .i64 e6)] ((True) ∧ (True) ∧ (True) ∧ (True) ∧ (True) ∧ True) rfl (by kernel_rfl) ⟨trivial, trivial, trivial, trivial, trivial, trivial⟩ ?_
    refine RunR.env [0, 1, 2, 6, 7, 8] [(0, .slice A xs.length c), (1, .slice A2 ys.length c2), (2, .int .u32 n), (6, .bool (decide (((zs5.length : Nat) : Int) = 0))), (7, .slice A33 zs5.length c34), (8, .int .i64 e6)] (by kernel_rfl) ?_
    have hk27 : (((zs5.length : Nat) : Int) = 0) := by omega
    refine RunR.enveq [(0, .slice A xs.length c), (1, .slice A2 ys.length c2), (2, .int .u32 n), (6, .bool true), (7, .slice A33 zs5.length c34), (8, .int .i64 e6)] (by rw [decide_eq_true hk27]; try rfl) ?_
    refine RunR.done (by kernel_rfl) ?_
    refine kseq_n ?_
    refine RunC.ret ?_
    refine kseq_r ?_
    refine kret_r [.bool true] [] [] ⟨rfl, trivial⟩ (by kernel_rfl) rfl ⟨rfl, rfl⟩
end Go.Proofs.Ytoaoabnhkiijpaa.LChachaBlocks
