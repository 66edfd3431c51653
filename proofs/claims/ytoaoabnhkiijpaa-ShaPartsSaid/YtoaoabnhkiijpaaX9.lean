/- What these functions compute: a contract for each, walked through its code. -/
import Derived.Test.YtoaoabnhkiijpaaHPure
import Derived.Test.YtoaoabnhkiijpaaProg
import Derived.Test.YtoaoabnhkiijpaaX1
import Derived.Test.YtoaoabnhkiijpaaX2
import Derived.Test.YtoaoabnhkiijpaaX3
import Derived.Test.YtoaoabnhkiijpaaX4
import Derived.Test.YtoaoabnhkiijpaaX5
import Derived.Test.YtoaoabnhkiijpaaX6
import Derived.Test.YtoaoabnhkiijpaaX7
import Derived.Test.YtoaoabnhkiijpaaX8
namespace Go.Proofs.Ytoaoabnhkiijpaa.X9
open Go Go.Proofs.Ytoaoabnhkiijpaa.SL Go.Proofs.Ytoaoabnhkiijpaa.SL.W Go.Proofs.Ytoaoabnhkiijpaa.SL.C Go.Proofs.Ytoaoabnhkiijpaa.SL.H Go.Proofs.Ytoaoabnhkiijpaa.X1 Go.Proofs.Ytoaoabnhkiijpaa.X2 Go.Proofs.Ytoaoabnhkiijpaa.X3 Go.Proofs.Ytoaoabnhkiijpaa.X4 Go.Proofs.Ytoaoabnhkiijpaa.X5 Go.Proofs.Ytoaoabnhkiijpaa.X6 Go.Proofs.Ytoaoabnhkiijpaa.X7 Go.Proofs.Ytoaoabnhkiijpaa.X8
set_option linter.unusedVariables false
set_option linter.unusedSimpArgs false
set_option maxRecDepth 100000
set_option maxHeartbeats 40000000
def U : Tab where
  und := [(3, .int .i64), (5, .int .u8), (22, .slice 5)]
  fld := []
  sz := [(3, 1), (5, 1), (22, 1)]
  ti := [(3, (1, 8, .int .i64 0)), (5, (1, 1, .int .u8 0)), (22, (1, 24, .slice none 0 0))]
  bld := []

theorem hU : U.OK Try.prog where
  und := by
    intro p hp
    simp only [U, List.mem_cons, List.not_mem_nil, or_false] at hp
    rcases hp with rfl | rfl | rfl
    · exact Try.underlying3
    · exact Try.underlying5
    · exact Try.underlying22
  fld := by
    intro p hp; cases hp
  sz := by
    intro p hp
    simp only [U, List.mem_cons, List.not_mem_nil, or_false] at hp
    rcases hp with rfl | rfl | rfl
    · exact ⟨Try.prog.types[3]!, by kernel_rfl, by kernel_rfl⟩
    · exact ⟨Try.prog.types[5]!, by kernel_rfl, by kernel_rfl⟩
    · exact ⟨Try.prog.types[22]!, by kernel_rfl, by kernel_rfl⟩
  ti := by
    intro p hp
    simp only [U, List.mem_cons, List.not_mem_nil, or_false] at hp
    rcases hp with rfl | rfl | rfl
    · exact ⟨Try.prog.types[3]!, by kernel_rfl, by kernel_rfl, by kernel_rfl, by kernel_rfl⟩
    · exact ⟨Try.prog.types[5]!, by kernel_rfl, by kernel_rfl, by kernel_rfl, by kernel_rfl⟩
    · exact ⟨Try.prog.types[22]!, by kernel_rfl, by kernel_rfl, by kernel_rfl, by kernel_rfl⟩
  bld := by
    intro p hp; cases hp
  mixed := by kernel_rfl

theorem l2_awake_spec  :
    CallsS Try.prog 21 [] [] (fun r D => r = .bool true ∧ D = []) := by
  refine CallsS.enter hU Try.f21 _ [.tmp 0] 51 Try.func21 rfl (by decide) rfl rfl (by kernel_rfl) fun w0 W => ?_
  refine RunC.seq ?_
  refine RunC.region ?_
  refine RunR.sil hU [] 1 1 [0] [(0, .bool false)] ((True) ∧ True) rfl (by kernel_rfl) ⟨trivial, trivial⟩ ?_
  refine RunR.done (by kernel_rfl) ?_
  refine kseq_n ?_
  refine RunC.seq ?_
  refine RunC.region ?_
  refine RunR.step (dst := some 3) (op := .buildSlice 22 3 #[(0, .const (.int .u8 97)), (1, .const (.int .u8 98)), (2, .const (.int .u8 99))]) (by kernel_rfl) (Step.lit_nums hU 5 1 .u8 (.int .u8 0) ([97, 98, 99] : List Int) rfl rfl (by kernel_rfl) rfl rfl (by kernel_rfl) (fun b1 => ?_))
  have hl2 : (([97, 98, 99] : List Int)).length = 3 := rfl
  refine RunR.step (dst := some 4) (op := .convert 22 22 (.tmp 3)) (by kernel_rfl) (Step.mark_bytes hU 5 0 3 3 b1 ([97, 98, 99] : List Int) rfl rfl (by kernel_rfl) (by kernel_rfl) (by decide) (by kernel_rfl) ?_)
  refine RunR.step (dst := some 5) (op := .call { callee := .value (.func 22), args := #[.tmp 4], argTypes := #[22] }) (by kernel_rfl) (Step.call 22 [.slice (some ⟨b1, 0, none⟩) 3 3] (by kernel_rfl) (by kernel_rfl) [] [vw (some ⟨b1, 0, none⟩) (nums .u8 ([97, 98, 99] : List Int))] [vw (some ⟨b1, 0, none⟩) (nums .u8 ([97, 98, 99] : List Int))] (h_Of_spec (some ⟨b1, 0, none⟩) 3 ([97, 98, 99] : List Int) 3 (by (repeat first | assumption | (simp only [fits]; omega) | with_reducible first | exact fits_wrap _ _ | exact fits_bits2 _ _ _ _ | exact In.nil _ | exact In.sb _ | exact In.replicate _ _ | apply In.append | apply In.cons | apply In.set | apply In.take | apply In.drop | apply In.rev)) (by first | assumption | omega | (simp only [List.length_append, List.length_cons, List.length_nil, List.length_set, List.length_replicate, List.length_take, List.length_drop]; omega) | (simp only [fits] at *; omega) | (simp only [List.length_append, List.length_cons, List.length_nil, List.length_set, List.length_replicate, List.length_take, List.length_drop] at *; omega) | (simp; done) | decide) (by first | assumption | omega | (simp only [List.length_append, List.length_cons, List.length_nil, List.length_set, List.length_replicate, List.length_take, List.length_drop]; omega) | (simp only [fits] at *; omega) | (simp only [List.length_append, List.length_cons, List.length_nil, List.length_set, List.length_replicate, List.length_take, List.length_drop] at *; omega) | (simp; done) | decide) (by first | rfl | assumption | omega | (simp only [List.length_append, List.length_cons, List.length_nil, List.length_set, List.length_replicate, List.length_take, List.length_drop]; omega) | (simp; done))) [] (by kernel_rfl) ((Lend.nil _).tells 0 (vw (some ⟨b1, 0, none⟩) (nums .u8 ([97, 98, 99] : List Int))) (some ⟨b1, 0, none⟩) (nums .u8 ([97, 98, 99] : List Int)) (by kernel_rfl) (tells_vw _ _)) ?_)
  rintro _ _ ⟨A23, c24, zs5, rfl, rfl, hp6, hp7, hp8, hp9, hp10⟩
  refine RunR.sil hU [] 1 4 [0, 1] [(0, .bool false), (1, .slice A23 zs5.length c24)] ((True) ∧ True) rfl (by kernel_rfl) ⟨trivial, trivial⟩ ?_
  refine RunR.done (by kernel_rfl) ?_
  refine kseq_n ?_
  refine RunC.seq ?_
  refine RunC.region ?_
  refine RunR.turn ([vw none (nums .u8 ([] : List Int)), row 5 1 (.slice A23 zs5.length c24) zs5.length (nums .u8 zs5), vw (some ⟨b1, 0, none⟩) (nums .u8 ([97, 98, 99] : List Int))]) (fun w hs => hs.nil_vw none) ?_
  refine RunR.step (dst := some 6) (op := .call { callee := .value (.func 22), args := #[.const (.slice none 0 0)], argTypes := #[22] }) (by kernel_rfl) (Step.call 22 [.slice none 0 0] (by kernel_rfl) (by kernel_rfl) [] [vw none (nums .u8 ([] : List Int))] [vw none (nums .u8 ([] : List Int)), row 5 1 (.slice A23 zs5.length c24) zs5.length (nums .u8 zs5), vw (some ⟨b1, 0, none⟩) (nums .u8 ([97, 98, 99] : List Int))] (h_Of_spec none 0 ([] : List Int) 0 (by (repeat first | assumption | (simp only [fits]; omega) | with_reducible first | exact fits_wrap _ _ | exact fits_bits2 _ _ _ _ | exact In.nil _ | exact In.sb _ | exact In.replicate _ _ | apply In.append | apply In.cons | apply In.set | apply In.take | apply In.drop | apply In.rev)) (by first | assumption | omega | (simp only [List.length_append, List.length_cons, List.length_nil, List.length_set, List.length_replicate, List.length_take, List.length_drop]; omega) | (simp only [fits] at *; omega) | (simp only [List.length_append, List.length_cons, List.length_nil, List.length_set, List.length_replicate, List.length_take, List.length_drop] at *; omega) | (simp; done) | decide) (by first | assumption | omega | (simp only [List.length_append, List.length_cons, List.length_nil, List.length_set, List.length_replicate, List.length_take, List.length_drop]; omega) | (simp only [fits] at *; omega) | (simp only [List.length_append, List.length_cons, List.length_nil, List.length_set, List.length_replicate, List.length_take, List.length_drop] at *; omega) | (simp; done) | decide) (by first | rfl | assumption | omega | (simp only [List.length_append, List.length_cons, List.length_nil, List.length_set, List.length_replicate, List.length_take, List.length_drop]; omega) | (simp; done))) [] (by kernel_rfl) ((Lend.nil _).tells 0 (vw none (nums .u8 ([] : List Int))) none (nums .u8 ([] : List Int)) (by kernel_rfl) (tells_vw _ _)) ?_)
  rintro _ _ ⟨A211, c212, zs13, rfl, rfl, hp14, hp15, hp16, hp17, hp18⟩
  refine RunR.sil hU [] 1 2 [0, 1, 2] [(0, .bool false), (1, .slice A23 zs5.length c24), (2, .slice A211 zs13.length c212)] ((True) ∧ True) rfl (by kernel_rfl) ⟨trivial, trivial⟩ ?_
  refine RunR.done (by kernel_rfl) ?_
  refine kseq_n ?_
  refine RunC.seq ?_
  refine RunC.region ?_
  refine RunR.sil hU [] 4 4 [0, 1, 2, 10] [(0, .bool false), (1, .slice A23 zs5.length c24), (2, .slice A211 zs13.length c212), (10, .bool (decide (((zs5.length : Nat) : Int) = 32)))] ((True) ∧ (True) ∧ (True) ∧ (True) ∧ True) rfl (by kernel_rfl) ⟨trivial, trivial, trivial, trivial, trivial⟩ ?_
  refine RunR.env [0, 1, 2, 10] [(0, .bool false), (1, .slice A23 zs5.length c24), (2, .slice A211 zs13.length c212), (10, .bool (decide (((zs5.length : Nat) : Int) = 32)))] (by kernel_rfl) ?_
  have hk19 : (((zs5.length : Nat) : Int) = 32) := by omega
  refine RunR.enveq [(0, .bool false), (1, .slice A23 zs5.length c24), (2, .slice A211 zs13.length c212), (10, .bool true)] (by rw [decide_eq_true hk19]; try rfl) ?_
  refine RunR.sil hU [] 2 6 [0, 1, 2, 10, 12] [(0, .bool false), (1, .slice A23 zs5.length c24), (2, .slice A211 zs13.length c212), (10, .bool true), (12, .pointer (elemAt A23 0 1))] ((True) ∧ ((0 ≤ (0 : Int) ∧ (0 : Int) < ((zs5.length : Nat) : Int)) ∧ Option.isSome A23 = true) ∧ True) rfl (by kernel_rfl) ⟨trivial, ⟨by omega, hp10 (by omega)⟩, trivial⟩ ?_
  refine RunR.step (dst := some 13) (op := .load 5 (.tmp 12)) (by kernel_rfl) (Step.load_num hU 2 (row 5 1 (.slice A23 zs5.length c24) zs5.length (nums .u8 zs5)) A23 0 .u8 zs5 rfl (by kernel_rfl) (by kernel_rfl) (tells_row _ _ _ _ _ _) (by kernel_rfl) (by omega) ?_)
  have hb20 : 0 ≤ zs5.getD ((0 : Int).toNat) 0 ∧ zs5.getD ((0 : Int).toNat) 0 < 256 := hp8.at_ _
  refine RunR.sil hU [] 3 10 [0, 1, 2, 16] [(0, .bool false), (1, .slice A23 zs5.length c24), (2, .slice A211 zs13.length c212), (16, .bool (decide ((zs5.getD (0 : Int).toNat 0) = 186)))] ((True) ∧ (True) ∧ (True) ∧ True) rfl (by kernel_rfl) ⟨trivial, trivial, trivial, trivial⟩ ?_
  refine RunR.env [0, 1, 2, 16] [(0, .bool false), (1, .slice A23 zs5.length c24), (2, .slice A211 zs13.length c212), (16, .bool (decide ((zs5.getD (0 : Int).toNat 0) = 186)))] (by kernel_rfl) ?_
  have hk21 : ((zs5.getD (0 : Int).toNat 0) = 186) := by simp only [hp6, hp14]; decide +kernel
  refine RunR.enveq [(0, .bool false), (1, .slice A23 zs5.length c24), (2, .slice A211 zs13.length c212), (16, .bool true)] (by rw [decide_eq_true hk21]; try rfl) ?_
  refine RunR.sil hU [] 2 12 [0, 1, 2, 16, 18] [(0, .bool false), (1, .slice A23 zs5.length c24), (2, .slice A211 zs13.length c212), (16, .bool true), (18, .pointer (elemAt A23 1 1))] ((True) ∧ ((0 ≤ (1 : Int) ∧ (1 : Int) < ((zs5.length : Nat) : Int)) ∧ Option.isSome A23 = true) ∧ True) rfl (by kernel_rfl) ⟨trivial, ⟨by omega, hp10 (by omega)⟩, trivial⟩ ?_
  refine RunR.step (dst := some 19) (op := .load 5 (.tmp 18)) (by kernel_rfl) (Step.load_num hU 2 (row 5 1 (.slice A23 zs5.length c24) zs5.length (nums .u8 zs5)) A23 1 .u8 zs5 rfl (by kernel_rfl) (by kernel_rfl) (tells_row _ _ _ _ _ _) (by kernel_rfl) (by omega) ?_)
  have hb22 : 0 ≤ zs5.getD ((1 : Int).toNat) 0 ∧ zs5.getD ((1 : Int).toNat) 0 < 256 := hp8.at_ _
  refine RunR.sil hU [] 3 16 [0, 1, 2, 22] [(0, .bool false), (1, .slice A23 zs5.length c24), (2, .slice A211 zs13.length c212), (22, .bool (decide ((zs5.getD (1 : Int).toNat 0) = 120)))] ((True) ∧ (True) ∧ (True) ∧ True) rfl (by kernel_rfl) ⟨trivial, trivial, trivial, trivial⟩ ?_
  refine RunR.env [0, 1, 2, 22] [(0, .bool false), (1, .slice A23 zs5.length c24), (2, .slice A211 zs13.length c212), (22, .bool (decide ((zs5.getD (1 : Int).toNat 0) = 120)))] (by kernel_rfl) ?_
  have hk23 : ((zs5.getD (1 : Int).toNat 0) = 120) := by simp only [hp6, hp14]; decide +kernel
  refine RunR.enveq [(0, .bool false), (1, .slice A23 zs5.length c24), (2, .slice A211 zs13.length c212), (22, .bool true)] (by rw [decide_eq_true hk23]; try rfl) ?_
  refine RunR.sil hU [] 2 18 [0, 1, 2, 22, 24] [(0, .bool false), (1, .slice A23 zs5.length c24), (2, .slice A211 zs13.length c212), (22, .bool true), (24, .pointer (elemAt A23 2 1))] ((True) ∧ ((0 ≤ (2 : Int) ∧ (2 : Int) < ((zs5.length : Nat) : Int)) ∧ Option.isSome A23 = true) ∧ True) rfl (by kernel_rfl) ⟨trivial, ⟨by omega, hp10 (by omega)⟩, trivial⟩ ?_
  refine RunR.step (dst := some 25) (op := .load 5 (.tmp 24)) (by kernel_rfl) (Step.load_num hU 2 (row 5 1 (.slice A23 zs5.length c24) zs5.length (nums .u8 zs5)) A23 2 .u8 zs5 rfl (by kernel_rfl) (by kernel_rfl) (tells_row _ _ _ _ _ _) (by kernel_rfl) (by omega) ?_)
  have hb24 : 0 ≤ zs5.getD ((2 : Int).toNat) 0 ∧ zs5.getD ((2 : Int).toNat) 0 < 256 := hp8.at_ _
  refine RunR.sil hU [] 3 22 [0, 1, 2, 28] [(0, .bool false), (1, .slice A23 zs5.length c24), (2, .slice A211 zs13.length c212), (28, .bool (decide ((zs5.getD (2 : Int).toNat 0) = 22)))] ((True) ∧ (True) ∧ (True) ∧ True) rfl (by kernel_rfl) ⟨trivial, trivial, trivial, trivial⟩ ?_
  refine RunR.env [0, 1, 2, 28] [(0, .bool false), (1, .slice A23 zs5.length c24), (2, .slice A211 zs13.length c212), (28, .bool (decide ((zs5.getD (2 : Int).toNat 0) = 22)))] (by kernel_rfl) ?_
  have hk25 : ((zs5.getD (2 : Int).toNat 0) = 22) := by simp only [hp6, hp14]; decide +kernel
  refine RunR.enveq [(0, .bool false), (1, .slice A23 zs5.length c24), (2, .slice A211 zs13.length c212), (28, .bool true)] (by rw [decide_eq_true hk25]; try rfl) ?_
  refine RunR.sil hU [] 2 24 [0, 2, 28, 30] [(0, .bool false), (2, .slice A211 zs13.length c212), (28, .bool true), (30, .pointer (elemAt A23 3 1))] ((True) ∧ ((0 ≤ (3 : Int) ∧ (3 : Int) < ((zs5.length : Nat) : Int)) ∧ Option.isSome A23 = true) ∧ True) rfl (by kernel_rfl) ⟨trivial, ⟨by omega, hp10 (by omega)⟩, trivial⟩ ?_
  refine RunR.step (dst := some 31) (op := .load 5 (.tmp 30)) (by kernel_rfl) (Step.load_num hU 2 (row 5 1 (.slice A23 zs5.length c24) zs5.length (nums .u8 zs5)) A23 3 .u8 zs5 rfl (by kernel_rfl) (by kernel_rfl) (tells_row _ _ _ _ _ _) (by kernel_rfl) (by omega) ?_)
  have hb26 : 0 ≤ zs5.getD ((3 : Int).toNat) 0 ∧ zs5.getD ((3 : Int).toNat) 0 < 256 := hp8.at_ _
  refine RunR.sil hU [] 3 28 [0, 2, 34] [(0, .bool false), (2, .slice A211 zs13.length c212), (34, .bool (decide ((zs5.getD (3 : Int).toNat 0) = 191)))] ((True) ∧ (True) ∧ (True) ∧ True) rfl (by kernel_rfl) ⟨trivial, trivial, trivial, trivial⟩ ?_
  refine RunR.env [0, 2, 34] [(0, .bool false), (2, .slice A211 zs13.length c212), (34, .bool (decide ((zs5.getD (3 : Int).toNat 0) = 191)))] (by kernel_rfl) ?_
  have hk27 : ((zs5.getD (3 : Int).toNat 0) = 191) := by simp only [hp6, hp14]; decide +kernel
  refine RunR.enveq [(0, .bool false), (2, .slice A211 zs13.length c212), (34, .bool true)] (by rw [decide_eq_true hk27]; try rfl) ?_
  refine RunR.sil hU [] 5 33 [0, 2, 39] [(0, .bool false), (2, .slice A211 zs13.length c212), (39, .bool (decide (((zs13.length : Nat) : Int) = 32)))] ((True) ∧ (True) ∧ (True) ∧ (True) ∧ (True) ∧ True) rfl (by kernel_rfl) ⟨trivial, trivial, trivial, trivial, trivial, trivial⟩ ?_
  refine RunR.env [0, 2, 39] [(0, .bool false), (2, .slice A211 zs13.length c212), (39, .bool (decide (((zs13.length : Nat) : Int) = 32)))] (by kernel_rfl) ?_
  have hk28 : (((zs13.length : Nat) : Int) = 32) := by omega
  refine RunR.enveq [(0, .bool false), (2, .slice A211 zs13.length c212), (39, .bool true)] (by rw [decide_eq_true hk28]; try rfl) ?_
  refine RunR.sil hU [] 2 35 [0, 2, 39, 41] [(0, .bool false), (2, .slice A211 zs13.length c212), (39, .bool true), (41, .pointer (elemAt A211 0 1))] ((True) ∧ ((0 ≤ (0 : Int) ∧ (0 : Int) < ((zs13.length : Nat) : Int)) ∧ Option.isSome A211 = true) ∧ True) rfl (by kernel_rfl) ⟨trivial, ⟨by omega, hp18 (by omega)⟩, trivial⟩ ?_
  refine RunR.step (dst := some 42) (op := .load 5 (.tmp 41)) (by kernel_rfl) (Step.load_num hU 0 (row 5 1 (.slice A211 zs13.length c212) zs13.length (nums .u8 zs13)) A211 0 .u8 zs13 rfl (by kernel_rfl) (by kernel_rfl) (tells_row _ _ _ _ _ _) (by kernel_rfl) (by omega) ?_)
  have hb29 : 0 ≤ zs13.getD ((0 : Int).toNat) 0 ∧ zs13.getD ((0 : Int).toNat) 0 < 256 := hp16.at_ _
  refine RunR.sil hU [] 3 39 [0, 2, 45] [(0, .bool false), (2, .slice A211 zs13.length c212), (45, .bool (decide ((zs13.getD (0 : Int).toNat 0) = 227)))] ((True) ∧ (True) ∧ (True) ∧ True) rfl (by kernel_rfl) ⟨trivial, trivial, trivial, trivial⟩ ?_
  refine RunR.env [0, 2, 45] [(0, .bool false), (2, .slice A211 zs13.length c212), (45, .bool (decide ((zs13.getD (0 : Int).toNat 0) = 227)))] (by kernel_rfl) ?_
  have hk30 : ((zs13.getD (0 : Int).toNat 0) = 227) := by simp only [hp6, hp14]; decide +kernel
  refine RunR.enveq [(0, .bool false), (2, .slice A211 zs13.length c212), (45, .bool true)] (by rw [decide_eq_true hk30]; try rfl) ?_
  refine RunR.sil hU [] 2 41 [0, 45, 47] [(0, .bool false), (45, .bool true), (47, .pointer (elemAt A211 3 1))] ((True) ∧ ((0 ≤ (3 : Int) ∧ (3 : Int) < ((zs13.length : Nat) : Int)) ∧ Option.isSome A211 = true) ∧ True) rfl (by kernel_rfl) ⟨trivial, ⟨by omega, hp18 (by omega)⟩, trivial⟩ ?_
  refine RunR.step (dst := some 48) (op := .load 5 (.tmp 47)) (by kernel_rfl) (Step.load_num hU 0 (row 5 1 (.slice A211 zs13.length c212) zs13.length (nums .u8 zs13)) A211 3 .u8 zs13 rfl (by kernel_rfl) (by kernel_rfl) (tells_row _ _ _ _ _ _) (by kernel_rfl) (by omega) ?_)
  have hb31 : 0 ≤ zs13.getD ((3 : Int).toNat) 0 ∧ zs13.getD ((3 : Int).toNat) 0 < 256 := hp16.at_ _
  refine RunR.sil hU [] 3 45 [0] [(0, .bool (decide ((zs13.getD (3 : Int).toNat 0) = 66)))] ((True) ∧ (True) ∧ (True) ∧ True) rfl (by kernel_rfl) ⟨trivial, trivial, trivial, trivial⟩ ?_
  refine RunR.env [0] [(0, .bool (decide ((zs13.getD (3 : Int).toNat 0) = 66)))] (by kernel_rfl) ?_
  have hk32 : ((zs13.getD (3 : Int).toNat 0) = 66) := by simp only [hp6, hp14]; decide +kernel
  refine RunR.enveq [(0, .bool true)] (by rw [decide_eq_true hk32]; try rfl) ?_
  refine RunR.done (by kernel_rfl) ?_
  refine kseq_n ?_
  refine RunC.ret ?_
  refine kret_r [.bool true] [] [] ⟨rfl, trivial⟩ (by kernel_rfl) rfl ⟨rfl, rfl⟩
end Go.Proofs.Ytoaoabnhkiijpaa.X9
