/- What these functions compute: a contract for each, walked through its code. -/
import Derived.Test.YtjhinpmnpdgadaaDoorBTPure
import Derived.Test.YtjhinpmnpdgadaaDoorProg
import Derived.Test.YtjhinpmnpdgadaaDoorX1
import Derived.Test.YtjhinpmnpdgadaaDoorX2
import Derived.Test.YtjhinpmnpdgadaaDoorX3
import Derived.Test.YtjhinpmnpdgadaaDoorX4
import Derived.Test.YtjhinpmnpdgadaaDoorX5
namespace Go.Proofs.YtjhinpmnpdgadaaDoor.X6
open Go Go.Proofs.YtjhinpmnpdgadaaDoor.SL Go.Proofs.YtjhinpmnpdgadaaDoor.SL.W Go.Proofs.YtjhinpmnpdgadaaDoor.SL.Y Go.Proofs.YtjhinpmnpdgadaaDoor.SL.B Go.Proofs.YtjhinpmnpdgadaaDoor.X1 Go.Proofs.YtjhinpmnpdgadaaDoor.X2 Go.Proofs.YtjhinpmnpdgadaaDoor.X3 Go.Proofs.YtjhinpmnpdgadaaDoor.X4 Go.Proofs.YtjhinpmnpdgadaaDoor.X5
set_option linter.unusedVariables false
set_option linter.unusedSimpArgs false
set_option maxRecDepth 100000
set_option maxHeartbeats 40000000
def U : Tab where
  und := [(5, .int .u8), (9, .string), (22, .slice 5)]
  fld := []
  sz := [(5, 1), (9, 1), (22, 1)]
  ti := [(5, (1, 1, .int .u8 0)), (9, (1, 16, .string ⟨#[]⟩)), (22, (1, 24, .slice none 0 0))]
  bld := []

theorem hU : U.OK Tryd.prog where
  und := by
    intro p hp
    simp only [U, List.mem_cons, List.not_mem_nil, or_false] at hp
    rcases hp with rfl | rfl | rfl
    · exact Tryd.underlying5
    · exact Tryd.underlying9
    · exact Tryd.underlying22
  fld := by
    intro p hp; cases hp
  sz := by
    intro p hp
    simp only [U, List.mem_cons, List.not_mem_nil, or_false] at hp
    rcases hp with rfl | rfl | rfl
    · exact ⟨Tryd.prog.types[5]!, by kernel_rfl, by kernel_rfl⟩
    · exact ⟨Tryd.prog.types[9]!, by kernel_rfl, by kernel_rfl⟩
    · exact ⟨Tryd.prog.types[22]!, by kernel_rfl, by kernel_rfl⟩
  ti := by
    intro p hp
    simp only [U, List.mem_cons, List.not_mem_nil, or_false] at hp
    rcases hp with rfl | rfl | rfl
    · exact ⟨Tryd.prog.types[5]!, by kernel_rfl, by kernel_rfl, by kernel_rfl, by kernel_rfl⟩
    · exact ⟨Tryd.prog.types[9]!, by kernel_rfl, by kernel_rfl, by kernel_rfl, by kernel_rfl⟩
    · exact ⟨Tryd.prog.types[22]!, by kernel_rfl, by kernel_rfl, by kernel_rfl, by kernel_rfl⟩
  bld := by
    intro p hp; cases hp
  mixed := by kernel_rfl

theorem l14_awake_spec  :
    CallsS Tryd.prog 11 [] [] (fun r D => r = .bool true ∧ D = []) := by
  refine CallsS.enter hU Tryd.f11 _ [.tmp 0] 21 Tryd.func11 rfl (by decide) rfl rfl (by kernel_rfl) fun w0 W => ?_
  refine RunC.seq ?_
  refine RunC.region ?_
  refine RunR.sil hU [] 1 1 [0] [(0, .bool false)] ((True) ∧ True) rfl (by kernel_rfl) ⟨trivial, trivial⟩ ?_
  refine RunR.done (by kernel_rfl) ?_
  refine kseq_n ?_
  refine RunC.seq ?_
  refine RunC.region ?_
  refine RunR.step (dst := some 4) (op := .call { callee := .value (.func 13), args := #[.const (.string ⟨#[84, 87, 70, 61]⟩)], argTypes := #[9] }) (by kernel_rfl) (Step.call 13 [.string ⟨#[84, 87, 70, 61]⟩] (by kernel_rfl) (by kernel_rfl) [] [] [] (b_Bytes_spec ⟨#[84, 87, 70, 61]⟩ (by first | assumption | omega | (simp only [List.length_append, List.length_cons, List.length_nil, List.length_set, List.length_replicate, List.length_take, List.length_drop]; omega) | (simp only [fits] at *; omega) | (simp only [List.length_append, List.length_cons, List.length_nil, List.length_set, List.length_replicate, List.length_take, List.length_drop] at *; omega) | (simp; done) | decide)) [] (by kernel_rfl) (Lend.nil _) ?_)
  rintro _ _ ⟨A91, c92, zs3, ok4, rfl, rfl, hp5, hp6, hp7, hp8, hp9, hp10⟩
  refine RunR.sil hU [] 5 6 [0, 2] [(0, .bool false), (2, .bool ok4)] ((True) ∧ (True) ∧ (True) ∧ (True) ∧ (True) ∧ True) rfl (by kernel_rfl) ⟨trivial, trivial, trivial, trivial, trivial, trivial⟩ ?_
  refine RunR.env [0, 2] [(0, .bool false), (2, .bool ok4)] (by kernel_rfl) ?_
  have hk11 : ok4 = false := by exact not_ok hp5 (by decide +kernel)
  refine RunR.enveq [(0, .bool false), (2, .bool false)] (by rw [hk11]; try rfl) ?_
  refine RunR.done (by kernel_rfl) ?_
  refine kseq_n ?_
  refine RunC.seq ?_
  refine RunC.region ?_
  refine RunR.step (dst := some 7) (op := .buildSlice 22 3 #[(0, .const (.int .u8 77)), (1, .const (.int .u8 97)), (2, .const (.int .u8 110))]) (by kernel_rfl) (Step.lit_nums hU 5 1 .u8 (.int .u8 0) ([77, 97, 110] : List Int) rfl rfl (by kernel_rfl) rfl rfl (by kernel_rfl) (fun b12 => ?_))
  have hl13 : (([77, 97, 110] : List Int)).length = 3 := rfl
  refine RunR.step (dst := some 8) (op := .convert 22 22 (.tmp 7)) (by kernel_rfl) (Step.mark_bytes hU 5 0 3 3 b12 ([77, 97, 110] : List Int) rfl rfl (by kernel_rfl) (by kernel_rfl) (by decide) (by kernel_rfl) ?_)
  refine RunR.step (dst := some 9) (op := .call { callee := .value (.func 12), args := #[.tmp 8], argTypes := #[22] }) (by kernel_rfl) (Step.call 12 [.slice (some ⟨b12, 0, none⟩) 3 3] (by kernel_rfl) (by kernel_rfl) [] [vw (some ⟨b12, 0, none⟩) (nums .u8 ([77, 97, 110] : List Int))] [vw (some ⟨b12, 0, none⟩) (nums .u8 ([77, 97, 110] : List Int)), row 5 1 (.slice A91 zs3.length c92) zs3.length (nums .u8 zs3)] (b_Text_spec (some ⟨b12, 0, none⟩) 3 ([77, 97, 110] : List Int) 3 (by (repeat first | assumption | (simp only [fits]; omega) | with_reducible first | exact fits_wrap _ _ | exact fits_bits2 _ _ _ _ | exact In.nil _ | exact In.sb _ | exact In.replicate _ _ | apply In.append | apply In.cons | apply In.set | apply In.take | apply In.drop | apply In.rev)) (by first | assumption | omega | (simp only [List.length_append, List.length_cons, List.length_nil, List.length_set, List.length_replicate, List.length_take, List.length_drop]; omega) | (simp only [fits] at *; omega) | (simp only [List.length_append, List.length_cons, List.length_nil, List.length_set, List.length_replicate, List.length_take, List.length_drop] at *; omega) | (simp; done) | decide) (by first | assumption | omega | (simp only [List.length_append, List.length_cons, List.length_nil, List.length_set, List.length_replicate, List.length_take, List.length_drop]; omega) | (simp only [fits] at *; omega) | (simp only [List.length_append, List.length_cons, List.length_nil, List.length_set, List.length_replicate, List.length_take, List.length_drop] at *; omega) | (simp; done) | decide) (by first | rfl | assumption | omega | (simp only [List.length_append, List.length_cons, List.length_nil, List.length_set, List.length_replicate, List.length_take, List.length_drop]; omega) | (simp; done))) [] (by kernel_rfl) ((Lend.nil _).tells 0 (vw (some ⟨b12, 0, none⟩) (nums .u8 ([77, 97, 110] : List Int))) (some ⟨b12, 0, none⟩) (nums .u8 ([77, 97, 110] : List Int)) (by kernel_rfl) (tells_vw _ _)) ?_)
  rintro _ _ ⟨rfl, rfl⟩
  refine RunR.sil hU [] 2 5 [0, 2, 11] [(0, .bool false), (2, .bool false), (11, .bool (decide ((strOfNums (enc ([77, 97, 110] : List Int))) = ⟨#[84, 87, 70, 117]⟩)))] ((True) ∧ (True) ∧ True) rfl (by kernel_rfl) ⟨trivial, trivial, trivial⟩ ?_
  refine RunR.env [0, 2, 11] [(0, .bool false), (2, .bool false), (11, .bool (decide ((strOfNums (enc ([77, 97, 110] : List Int))) = ⟨#[84, 87, 70, 117]⟩)))] (by kernel_rfl) ?_
  have hk14 : ((strOfNums (enc ([77, 97, 110] : List Int))) = ⟨#[84, 87, 70, 117]⟩) := by decide +kernel
  refine RunR.enveq [(0, .bool false), (2, .bool false), (11, .bool true)] (by rw [decide_eq_true hk14]; try rfl) ?_
  refine RunR.step (dst := some 12) (op := .buildSlice 22 1 #[(0, .const (.int .u8 77))]) (by kernel_rfl) (Step.lit_nums hU 5 1 .u8 (.int .u8 0) ([77] : List Int) rfl rfl (by kernel_rfl) rfl rfl (by kernel_rfl) (fun b15 => ?_))
  have hl16 : (([77] : List Int)).length = 1 := rfl
  refine RunR.step (dst := some 13) (op := .convert 22 22 (.tmp 12)) (by kernel_rfl) (Step.mark_bytes hU 5 0 1 1 b15 ([77] : List Int) rfl rfl (by kernel_rfl) (by kernel_rfl) (by decide) (by kernel_rfl) ?_)
  refine RunR.step (dst := some 14) (op := .call { callee := .value (.func 12), args := #[.tmp 13], argTypes := #[22] }) (by kernel_rfl) (Step.call 12 [.slice (some ⟨b15, 0, none⟩) 1 1] (by kernel_rfl) (by kernel_rfl) [] [vw (some ⟨b15, 0, none⟩) (nums .u8 ([77] : List Int))] [vw (some ⟨b15, 0, none⟩) (nums .u8 ([77] : List Int)), vw (some ⟨b12, 0, none⟩) (nums .u8 ([77, 97, 110] : List Int)), row 5 1 (.slice A91 zs3.length c92) zs3.length (nums .u8 zs3)] (b_Text_spec (some ⟨b15, 0, none⟩) 1 ([77] : List Int) 1 (by (repeat first | assumption | (simp only [fits]; omega) | with_reducible first | exact fits_wrap _ _ | exact fits_bits2 _ _ _ _ | exact In.nil _ | exact In.sb _ | exact In.replicate _ _ | apply In.append | apply In.cons | apply In.set | apply In.take | apply In.drop | apply In.rev)) (by first | assumption | omega | (simp only [List.length_append, List.length_cons, List.length_nil, List.length_set, List.length_replicate, List.length_take, List.length_drop]; omega) | (simp only [fits] at *; omega) | (simp only [List.length_append, List.length_cons, List.length_nil, List.length_set, List.length_replicate, List.length_take, List.length_drop] at *; omega) | (simp; done) | decide) (by first | assumption | omega | (simp only [List.length_append, List.length_cons, List.length_nil, List.length_set, List.length_replicate, List.length_take, List.length_drop]; omega) | (simp only [fits] at *; omega) | (simp only [List.length_append, List.length_cons, List.length_nil, List.length_set, List.length_replicate, List.length_take, List.length_drop] at *; omega) | (simp; done) | decide) (by first | rfl | assumption | omega | (simp only [List.length_append, List.length_cons, List.length_nil, List.length_set, List.length_replicate, List.length_take, List.length_drop]; omega) | (simp; done))) [] (by kernel_rfl) ((Lend.nil _).tells 0 (vw (some ⟨b15, 0, none⟩) (nums .u8 ([77] : List Int))) (some ⟨b15, 0, none⟩) (nums .u8 ([77] : List Int)) (by kernel_rfl) (tells_vw _ _)) ?_)
  rintro _ _ ⟨rfl, rfl⟩
  refine RunR.sil hU [] 3 11 [0, 2, 17] [(0, .bool false), (2, .bool false), (17, .bool (decide ((strOfNums (enc ([77] : List Int))) = ⟨#[84, 81, 61, 61]⟩)))] ((True) ∧ (True) ∧ (True) ∧ True) rfl (by kernel_rfl) ⟨trivial, trivial, trivial, trivial⟩ ?_
  refine RunR.env [0, 2, 17] [(0, .bool false), (2, .bool false), (17, .bool (decide ((strOfNums (enc ([77] : List Int))) = ⟨#[84, 81, 61, 61]⟩)))] (by kernel_rfl) ?_
  have hk17 : ((strOfNums (enc ([77] : List Int))) = ⟨#[84, 81, 61, 61]⟩) := by decide +kernel
  refine RunR.enveq [(0, .bool false), (2, .bool false), (17, .bool true)] (by rw [decide_eq_true hk17]; try rfl) ?_
  refine RunR.sil hU [] 4 15 [0] [(0, .bool true)] ((True) ∧ (True) ∧ (True) ∧ (True) ∧ True) rfl (by kernel_rfl) ⟨trivial, trivial, trivial, trivial, trivial⟩ ?_
  refine RunR.done (by kernel_rfl) ?_
  refine kseq_n ?_
  refine RunC.ret ?_
  refine kret_r [.bool true] [] [] ⟨rfl, trivial⟩ (by kernel_rfl) rfl ⟨rfl, rfl⟩
end Go.Proofs.YtjhinpmnpdgadaaDoor.X6
