/- What these functions compute: a contract for each, walked through its code. -/
import Derived.Test.YtjhinpmnpdgadaaDoorZPure
import Derived.Test.YtjhinpmnpdgadaaDoorProg
import Derived.Test.YtjhinpmnpdgadaaDoorX1
import Derived.Test.YtjhinpmnpdgadaaDoorX2
import Derived.Test.YtjhinpmnpdgadaaDoorX3
import Derived.Test.YtjhinpmnpdgadaaDoorX4
import Derived.Test.YtjhinpmnpdgadaaDoorX5
import Derived.Test.YtjhinpmnpdgadaaDoorX6
import Derived.Test.YtjhinpmnpdgadaaDoorX7
import Derived.Test.YtjhinpmnpdgadaaDoorX8
namespace Go.Proofs.YtjhinpmnpdgadaaDoor.X9
open Go Go.Proofs.YtjhinpmnpdgadaaDoor.SL Go.Proofs.YtjhinpmnpdgadaaDoor.SL.W Go.Proofs.YtjhinpmnpdgadaaDoor.SL.Z Go.Proofs.YtjhinpmnpdgadaaDoor.X1 Go.Proofs.YtjhinpmnpdgadaaDoor.X2 Go.Proofs.YtjhinpmnpdgadaaDoor.X3 Go.Proofs.YtjhinpmnpdgadaaDoor.X4 Go.Proofs.YtjhinpmnpdgadaaDoor.X5 Go.Proofs.YtjhinpmnpdgadaaDoor.X6 Go.Proofs.YtjhinpmnpdgadaaDoor.X7 Go.Proofs.YtjhinpmnpdgadaaDoor.X8
set_option linter.unusedVariables false
set_option linter.unusedSimpArgs false
set_option maxRecDepth 100000
set_option maxHeartbeats 40000000
def U : Tab where
  und := [(3, .int .i64), (9, .string), (33, .slice 9), (34, .int .i64)]
  fld := []
  sz := [(3, 1), (9, 1), (33, 1), (34, 1)]
  ti := [(3, (1, 8, .int .i64 0)), (9, (1, 16, .string ⟨#[]⟩)), (33, (1, 24, .slice none 0 0)), (34, (1, 8, .int .i64 0))]
  bld := []

theorem hU : U.OK Tryd.prog where
  und := by
    intro p hp
    simp only [U, List.mem_cons, List.not_mem_nil, or_false] at hp
    rcases hp with rfl | rfl | rfl | rfl
    · exact Tryd.underlying3
    · exact Tryd.underlying9
    · exact Tryd.underlying33
    · exact Tryd.underlying34
  fld := by
    intro p hp; cases hp
  sz := by
    intro p hp
    simp only [U, List.mem_cons, List.not_mem_nil, or_false] at hp
    rcases hp with rfl | rfl | rfl | rfl
    · exact ⟨Tryd.prog.types[3]!, by kernel_rfl, by kernel_rfl⟩
    · exact ⟨Tryd.prog.types[9]!, by kernel_rfl, by kernel_rfl⟩
    · exact ⟨Tryd.prog.types[33]!, by kernel_rfl, by kernel_rfl⟩
    · exact ⟨Tryd.prog.types[34]!, by kernel_rfl, by kernel_rfl⟩
  ti := by
    intro p hp
    simp only [U, List.mem_cons, List.not_mem_nil, or_false] at hp
    rcases hp with rfl | rfl | rfl | rfl
    · exact ⟨Tryd.prog.types[3]!, by kernel_rfl, by kernel_rfl, by kernel_rfl, by kernel_rfl⟩
    · exact ⟨Tryd.prog.types[9]!, by kernel_rfl, by kernel_rfl, by kernel_rfl, by kernel_rfl⟩
    · exact ⟨Tryd.prog.types[33]!, by kernel_rfl, by kernel_rfl, by kernel_rfl, by kernel_rfl⟩
    · exact ⟨Tryd.prog.types[34]!, by kernel_rfl, by kernel_rfl, by kernel_rfl, by kernel_rfl⟩
  bld := by
    intro p hp; cases hp
  mixed := by kernel_rfl

theorem l20_awake_spec  :
    CallsS Tryd.prog 17 [] [] (fun r D => r = .bool true ∧ D = []) := by
  refine CallsS.enter hU Tryd.f17 _ [.tmp 0] 46 Tryd.func17 rfl (by decide) rfl rfl (by kernel_rfl) fun w0 W => ?_
  refine RunC.seq ?_
  refine RunC.region ?_
  refine RunR.sil hU [] 1 1 [0] [(0, .bool false)] ((True) ∧ True) rfl (by kernel_rfl) ⟨trivial, trivial⟩ ?_
  refine RunR.done (by kernel_rfl) ?_
  refine kseq_n ?_
  refine RunC.seq ?_
  refine RunC.region ?_
  refine RunR.step (dst := some 9) (op := .call { callee := .value (.func 18), args := #[.const (.string ⟨#[46, 47, 97, 47, 47, 98, 47]⟩)], argTypes := #[9] }) (by kernel_rfl) (Step.call 18 [.string ⟨#[46, 47, 97, 47, 47, 98, 47]⟩] (by kernel_rfl) (by kernel_rfl) [] [] [] (p_Parts_spec ⟨#[46, 47, 97, 47, 47, 98, 47]⟩ (by first | assumption | omega | (simp only [List.length_append, List.length_cons, List.length_nil, List.length_set, List.length_replicate, List.length_take, List.length_drop]; omega) | (simp only [fits] at *; omega) | (simp only [List.length_append, List.length_cons, List.length_nil, List.length_set, List.length_replicate, List.length_take, List.length_drop] at *; omega) | (simp; done) | decide)) [] (by kernel_rfl) (Lend.nil _) ?_)
  rintro _ _ ⟨A91, c92, zs3, e4, rfl, rfl, hp5, hp6, hp7⟩
  refine RunR.sil hU [] 5 6 [0, 1, 2] [(0, .bool false), (1, .slice A91 zs3.length c92), (2, .int .i64 e4)] ((True) ∧ (True) ∧ (True) ∧ (True) ∧ (True) ∧ True) rfl (by kernel_rfl) ⟨trivial, trivial, trivial, trivial, trivial, trivial⟩ ?_
  refine RunR.done (by kernel_rfl) ?_
  refine kseq_n ?_
  refine RunC.seq ?_
  refine RunC.region ?_
  refine RunR.step (dst := some 13) (op := .call { callee := .value (.func 18), args := #[.const (.string ⟨#[97, 47, 46, 46, 47, 98]⟩)], argTypes := #[9] }) (by kernel_rfl) (Step.call 18 [.string ⟨#[97, 47, 46, 46, 47, 98]⟩] (by kernel_rfl) (by kernel_rfl) [] [] [row 9 1 (.slice A91 zs3.length c92) zs3.length (strV zs3)] (p_Parts_spec ⟨#[97, 47, 46, 46, 47, 98]⟩ (by first | assumption | omega | (simp only [List.length_append, List.length_cons, List.length_nil, List.length_set, List.length_replicate, List.length_take, List.length_drop]; omega) | (simp only [fits] at *; omega) | (simp only [List.length_append, List.length_cons, List.length_nil, List.length_set, List.length_replicate, List.length_take, List.length_drop] at *; omega) | (simp; done) | decide)) [] (by kernel_rfl) (Lend.nil _) ?_)
  rintro _ _ ⟨A98, c99, zs10, e11, rfl, rfl, hp12, hp13, hp14⟩
  refine RunR.sil hU [] 5 6 [0, 1, 2, 4] [(0, .bool false), (1, .slice A91 zs3.length c92), (2, .int .i64 e4), (4, .int .i64 e11)] ((True) ∧ (True) ∧ (True) ∧ (True) ∧ (True) ∧ True) rfl (by kernel_rfl) ⟨trivial, trivial, trivial, trivial, trivial, trivial⟩ ?_
  refine RunR.done (by kernel_rfl) ?_
  refine kseq_n ?_
  refine RunC.seq ?_
  refine RunC.region ?_
  refine RunR.step (dst := some 17) (op := .buildSlice 33 2 #[(0, .const (.string ⟨#[100]⟩)), (1, .const (.string ⟨#[46, 119, 104, 46, 120]⟩))]) (by kernel_rfl) (Step.lit_vals hU 9 16 (.string ⟨#[]⟩) (strV ([⟨#[100]⟩, ⟨#[46, 119, 104, 46, 120]⟩] : List ByteArray)) (by kernel_rfl) (by kernel_rfl) (by kernel_rfl) (by simp [strV, Value.cells]) rfl rfl (by kernel_rfl) (fun b15 => ?_))
  refine RunR.step (dst := some 18) (op := .call { callee := .value (.func 23), args := #[.tmp 17], argTypes := #[33] }) (by kernel_rfl) (Step.call 23 [.slice (some ⟨b15, 0, none⟩) 2 2] (by kernel_rfl) (by kernel_rfl) [] [vw (some ⟨b15, 0, none⟩) (strV ([⟨#[100]⟩, ⟨#[46, 119, 104, 46, 120]⟩] : List ByteArray))] [row 9 1 (.slice (some ⟨b15, 0, none⟩) 2 2) 2 (strV ([⟨#[100]⟩, ⟨#[46, 119, 104, 46, 120]⟩] : List ByteArray)), row 9 1 (.slice A98 zs10.length c99) zs10.length (strV zs10), row 9 1 (.slice A91 zs3.length c92) zs3.length (strV zs3)] (p_White_spec (some ⟨b15, 0, none⟩) 2 ([⟨#[100]⟩, ⟨#[46, 119, 104, 46, 120]⟩] : List ByteArray) 2 (by first | assumption | omega | (simp only [List.length_append, List.length_cons, List.length_nil, List.length_set, List.length_replicate, List.length_take, List.length_drop]; omega) | (simp only [fits] at *; omega) | (simp only [List.length_append, List.length_cons, List.length_nil, List.length_set, List.length_replicate, List.length_take, List.length_drop] at *; omega) | (simp; done) | decide) (by decide +kernel) (by first | assumption | omega | (simp only [List.length_append, List.length_cons, List.length_nil, List.length_set, List.length_replicate, List.length_take, List.length_drop]; omega) | (simp only [fits] at *; omega) | (simp only [List.length_append, List.length_cons, List.length_nil, List.length_set, List.length_replicate, List.length_take, List.length_drop] at *; omega) | (simp; done) | decide) (fun _ => rfl) (by first | rfl | assumption | omega | (simp only [List.length_append, List.length_cons, List.length_nil, List.length_set, List.length_replicate, List.length_take, List.length_drop]; omega) | (simp; done))) [] (by kernel_rfl) ((Lend.nil _).tells 0 (row 9 1 (.slice (some ⟨b15, 0, none⟩) 2 2) 2 (strV ([⟨#[100]⟩, ⟨#[46, 119, 104, 46, 120]⟩] : List ByteArray))) (some ⟨b15, 0, none⟩) (strV ([⟨#[100]⟩, ⟨#[46, 119, 104, 46, 120]⟩] : List ByteArray)) (by kernel_rfl) (tells_row _ _ _ _ _ _)) ?_)
  rintro _ _ ⟨A916, c917, zs18, k19, e20, rfl, rfl, hp21, hp22, hp23⟩
  refine RunR.sil hU [] 7 9 [0, 1, 2, 4, 5, 6, 7] [(0, .bool false), (1, .slice A91 zs3.length c92), (2, .int .i64 e4), (4, .int .i64 e11), (5, .slice A916 zs18.length c917), (6, .int .i64 k19), (7, .int .i64 e20)] ((True) ∧ (True) ∧ (True) ∧ (True) ∧ (True) ∧ (True) ∧ (True) ∧ True) rfl (by kernel_rfl) ⟨trivial, trivial, trivial, trivial, trivial, trivial, trivial, trivial⟩ ?_
  refine RunR.done (by kernel_rfl) ?_
  refine kseq_n ?_
  refine RunC.seq ?_
  refine RunC.region ?_
  refine RunR.sil hU [] 3 3 [0, 1, 4, 5, 6, 7, 24] [(0, .bool false), (1, .slice A91 zs3.length c92), (4, .int .i64 e11), (5, .slice A916 zs18.length c917), (6, .int .i64 k19), (7, .int .i64 e20), (24, .bool (decide (e4 = 0)))] ((True) ∧ (True) ∧ (True) ∧ True) rfl (by kernel_rfl) ⟨trivial, trivial, trivial, trivial⟩ ?_
  refine RunR.env [0, 1, 4, 5, 6, 7, 24] [(0, .bool false), (1, .slice A91 zs3.length c92), (4, .int .i64 e11), (5, .slice A916 zs18.length c917), (6, .int .i64 k19), (7, .int .i64 e20), (24, .bool (decide (e4 = 0)))] (by kernel_rfl) ?_
  have hk24 : (e4 = 0) := by first | exact (aw_1 hp5).1 | exact (aw_3 hp21).1
  refine RunR.enveq [(0, .bool false), (1, .slice A91 zs3.length c92), (4, .int .i64 e11), (5, .slice A916 zs18.length c917), (6, .int .i64 k19), (7, .int .i64 e20), (24, .bool true)] (by rw [decide_eq_true hk24]; try rfl) ?_
  refine RunR.sil hU [] 1 4 [0, 4, 5, 6, 7, 24, 25] [(0, .bool false), (4, .int .i64 e11), (5, .slice A916 zs18.length c917), (6, .int .i64 k19), (7, .int .i64 e20), (24, .bool true), (25, .slice A91 zs3.length c92)] ((True) ∧ True) rfl (by kernel_rfl) ⟨trivial, trivial⟩ ?_
  refine RunR.step (dst := some 26) (op := .call { callee := .value (.func 21), args := #[.tmp 25], argTypes := #[33] }) (by kernel_rfl) (Step.call 21 [.slice A91 zs3.length c92] (by kernel_rfl) (by kernel_rfl) [] [vw A91 (strV zs3)] [row 9 1 (.slice A916 zs18.length c917) zs18.length (strV zs18), row 9 1 (.slice (some ⟨b15, 0, none⟩) 2 2) 2 (strV ([⟨#[100]⟩, ⟨#[46, 119, 104, 46, 120]⟩] : List ByteArray)), row 9 1 (.slice A98 zs10.length c99) zs10.length (strV zs10), row 9 1 (.slice A91 zs3.length c92) zs3.length (strV zs3)] (p_Join_spec A91 c92 zs3 zs3.length (by first | exact hp5.len | (rw [(aw_3 hp21).2.2.1]; decide)) (by first | exact hp5.may | (rw [(aw_3 hp21).2.2.1]; decide +kernel)) (by first | assumption | omega | (simp only [List.length_append, List.length_cons, List.length_nil, List.length_set, List.length_replicate, List.length_take, List.length_drop]; omega) | (simp only [fits] at *; omega) | (simp only [List.length_append, List.length_cons, List.length_nil, List.length_set, List.length_replicate, List.length_take, List.length_drop] at *; omega) | (simp; done) | decide) (by first | rfl | assumption | omega | (simp only [List.length_append, List.length_cons, List.length_nil, List.length_set, List.length_replicate, List.length_take, List.length_drop]; omega) | (simp; done))) [] (by kernel_rfl) ((Lend.nil _).tells 3 (row 9 1 (.slice A91 zs3.length c92) zs3.length (strV zs3)) A91 (strV zs3) (by kernel_rfl) (tells_row _ _ _ _ _ _)) ?_)
  rintro _ _ ⟨rfl, rfl⟩
  refine RunR.sil hU [] 3 8 [0, 4, 5, 6, 7, 29] [(0, .bool false), (4, .int .i64 e11), (5, .slice A916 zs18.length c917), (6, .int .i64 k19), (7, .int .i64 e20), (29, .bool (decide ((joinS zs3) = ⟨#[97, 47, 98]⟩)))] ((True) ∧ (True) ∧ (True) ∧ True) rfl (by kernel_rfl) ⟨trivial, trivial, trivial, trivial⟩ ?_
  refine RunR.env [0, 4, 5, 6, 7, 29] [(0, .bool false), (4, .int .i64 e11), (5, .slice A916 zs18.length c917), (6, .int .i64 k19), (7, .int .i64 e20), (29, .bool (decide ((joinS zs3) = ⟨#[97, 47, 98]⟩)))] (by kernel_rfl) ?_
  have hk25 : ((joinS zs3) = ⟨#[97, 47, 98]⟩) := by exact (aw_1 hp5).2
  refine RunR.enveq [(0, .bool false), (4, .int .i64 e11), (5, .slice A916 zs18.length c917), (6, .int .i64 k19), (7, .int .i64 e20), (29, .bool true)] (by rw [decide_eq_true hk25]; try rfl) ?_
  refine RunR.sil hU [] 4 12 [0, 5, 6, 7, 33] [(0, .bool false), (5, .slice A916 zs18.length c917), (6, .int .i64 k19), (7, .int .i64 e20), (33, .bool (decide (e11 = 12)))] ((True) ∧ (True) ∧ (True) ∧ (True) ∧ True) rfl (by kernel_rfl) ⟨trivial, trivial, trivial, trivial, trivial⟩ ?_
  refine RunR.env [0, 5, 6, 7, 33] [(0, .bool false), (5, .slice A916 zs18.length c917), (6, .int .i64 k19), (7, .int .i64 e20), (33, .bool (decide (e11 = 12)))] (by kernel_rfl) ?_
  have hk26 : (e11 = 12) := by exact aw_2 hp12
  refine RunR.enveq [(0, .bool false), (5, .slice A916 zs18.length c917), (6, .int .i64 k19), (7, .int .i64 e20), (33, .bool true)] (by rw [decide_eq_true hk26]; try rfl) ?_
  refine RunR.sil hU [] 4 16 [0, 5, 6, 37] [(0, .bool false), (5, .slice A916 zs18.length c917), (6, .int .i64 k19), (37, .bool (decide (e20 = 0)))] ((True) ∧ (True) ∧ (True) ∧ (True) ∧ True) rfl (by kernel_rfl) ⟨trivial, trivial, trivial, trivial, trivial⟩ ?_
  refine RunR.env [0, 5, 6, 37] [(0, .bool false), (5, .slice A916 zs18.length c917), (6, .int .i64 k19), (37, .bool (decide (e20 = 0)))] (by kernel_rfl) ?_
  have hk27 : (e20 = 0) := by first | exact (aw_1 hp5).1 | exact (aw_3 hp21).1
  refine RunR.enveq [(0, .bool false), (5, .slice A916 zs18.length c917), (6, .int .i64 k19), (37, .bool true)] (by rw [decide_eq_true hk27]; try rfl) ?_
  refine RunR.sil hU [] 4 20 [0, 5, 41] [(0, .bool false), (5, .slice A916 zs18.length c917), (41, .bool (decide (k19 = 1)))] ((True) ∧ (True) ∧ (True) ∧ (True) ∧ True) rfl (by kernel_rfl) ⟨trivial, trivial, trivial, trivial, trivial⟩ ?_
  refine RunR.env [0, 5, 41] [(0, .bool false), (5, .slice A916 zs18.length c917), (41, .bool (decide (k19 = 1)))] (by kernel_rfl) ?_
  have hk28 : (k19 = 1) := by exact (aw_3 hp21).2.1
  refine RunR.enveq [(0, .bool false), (5, .slice A916 zs18.length c917), (41, .bool true)] (by rw [decide_eq_true hk28]; try rfl) ?_
  refine RunR.sil hU [] 1 21 [0, 41, 42] [(0, .bool false), (41, .bool true), (42, .slice A916 zs18.length c917)] ((True) ∧ True) rfl (by kernel_rfl) ⟨trivial, trivial⟩ ?_
  refine RunR.step (dst := some 43) (op := .call { callee := .value (.func 21), args := #[.tmp 42], argTypes := #[33] }) (by kernel_rfl) (Step.call 21 [.slice A916 zs18.length c917] (by kernel_rfl) (by kernel_rfl) [] [vw A916 (strV zs18)] [row 9 1 (.slice A916 zs18.length c917) zs18.length (strV zs18), row 9 1 (.slice (some ⟨b15, 0, none⟩) 2 2) 2 (strV ([⟨#[100]⟩, ⟨#[46, 119, 104, 46, 120]⟩] : List ByteArray)), row 9 1 (.slice A98 zs10.length c99) zs10.length (strV zs10), row 9 1 (.slice A91 zs3.length c92) zs3.length (strV zs3)] (p_Join_spec A916 c917 zs18 zs18.length (by first | exact hp5.len | (rw [(aw_3 hp21).2.2.1]; decide)) (by first | exact hp5.may | (rw [(aw_3 hp21).2.2.1]; decide +kernel)) (by first | assumption | omega | (simp only [List.length_append, List.length_cons, List.length_nil, List.length_set, List.length_replicate, List.length_take, List.length_drop]; omega) | (simp only [fits] at *; omega) | (simp only [List.length_append, List.length_cons, List.length_nil, List.length_set, List.length_replicate, List.length_take, List.length_drop] at *; omega) | (simp; done) | decide) (by first | rfl | assumption | omega | (simp only [List.length_append, List.length_cons, List.length_nil, List.length_set, List.length_replicate, List.length_take, List.length_drop]; omega) | (simp; done))) [] (by kernel_rfl) ((Lend.nil _).tells 0 (row 9 1 (.slice A916 zs18.length c917) zs18.length (strV zs18)) A916 (strV zs18) (by kernel_rfl) (tells_row _ _ _ _ _ _)) ?_)
  rintro _ _ ⟨rfl, rfl⟩
  refine RunR.sil hU [] 3 25 [0] [(0, .bool (decide ((joinS zs18) = ⟨#[100, 47, 120]⟩)))] ((True) ∧ (True) ∧ (True) ∧ True) rfl (by kernel_rfl) ⟨trivial, trivial, trivial, trivial⟩ ?_
  refine RunR.done (by kernel_rfl) ?_
  refine kseq_n ?_
  refine RunC.ret ?_
  refine kret_r [.bool (decide ((joinS zs18) = ⟨#[100, 47, 120]⟩))] [] [] ⟨rfl, trivial⟩ (by kernel_rfl) rfl ⟨(by first | rfl | (exact congrArg Value.bool (decide_eq_true ((aw_3 hp21).2.2.2)))), (by first | rfl | (exact congrArg Value.bool (decide_eq_true ((aw_3 hp21).2.2.2))))⟩
end Go.Proofs.YtjhinpmnpdgadaaDoor.X9
