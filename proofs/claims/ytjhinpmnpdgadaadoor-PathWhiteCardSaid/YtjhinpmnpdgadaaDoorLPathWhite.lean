/- The law PathWhite returns true whatever it is handed: its walk, on the contracts of what it calls. -/
import Derived.Test.YtjhinpmnpdgadaaDoorZPure
import Derived.Test.YtjhinpmnpdgadaaDoorProg
import Derived.Test.YtjhinpmnpdgadaaDoorX1
import Derived.Test.YtjhinpmnpdgadaaDoorX2
import Derived.Test.YtjhinpmnpdgadaaDoorX3
import Derived.Test.YtjhinpmnpdgadaaDoorX4
import Derived.Test.YtjhinpmnpdgadaaDoorX5
import Derived.Test.YtjhinpmnpdgadaaDoorX6
import Derived.Test.YtjhinpmnpdgadaaDoorX7
import Derived.Test.YtjhinpmnpdgadaaDoorX8
import Derived.Test.YtjhinpmnpdgadaaDoorX9
namespace Go.Proofs.YtjhinpmnpdgadaaDoor.LPathWhite
open Go Go.Proofs.YtjhinpmnpdgadaaDoor.SL Go.Proofs.YtjhinpmnpdgadaaDoor.SL.W Go.Proofs.YtjhinpmnpdgadaaDoor.SL.Z Go.Proofs.YtjhinpmnpdgadaaDoor.X1 Go.Proofs.YtjhinpmnpdgadaaDoor.X2 Go.Proofs.YtjhinpmnpdgadaaDoor.X3 Go.Proofs.YtjhinpmnpdgadaaDoor.X4 Go.Proofs.YtjhinpmnpdgadaaDoor.X5 Go.Proofs.YtjhinpmnpdgadaaDoor.X6 Go.Proofs.YtjhinpmnpdgadaaDoor.X7 Go.Proofs.YtjhinpmnpdgadaaDoor.X8 Go.Proofs.YtjhinpmnpdgadaaDoor.X9
set_option linter.unusedVariables false
set_option linter.unusedSimpArgs false
set_option maxRecDepth 100000
set_option maxHeartbeats 40000000
def U : Tab where
  und := [(3, .int .i64), (9, .string), (33, .slice 9), (34, .int .i64)]
  fld := []
  sz := [(3, 1), (9, 1), (33, 1), (34, 1)]
  ti := [(3, (1, 8, .int .i64 0)), (9, (1, 16, .string ⟨#[]⟩)), (33, (1, 24, .slice none 0 0)), (34, (1, 8, .int .i64 0))]
  bld := []

theorem hU : U.OK Tryd.prog where
  und := by
    intro p hp
    simp only [U, List.mem_cons, List.not_mem_nil, or_false] at hp
    rcases hp with rfl | rfl | rfl | rfl
    · exact Tryd.underlying3
    · exact Tryd.underlying9
    · exact Tryd.underlying33
    · exact Tryd.underlying34
  fld := by
    intro p hp; cases hp
  sz := by
    intro p hp
    simp only [U, List.mem_cons, List.not_mem_nil, or_false] at hp
    rcases hp with rfl | rfl | rfl | rfl
    · exact ⟨Tryd.prog.types[3]!, by kernel_rfl, by kernel_rfl⟩
    · exact ⟨Tryd.prog.types[9]!, by kernel_rfl, by kernel_rfl⟩
    · exact ⟨Tryd.prog.types[33]!, by kernel_rfl, by kernel_rfl⟩
    · exact ⟨Tryd.prog.types[34]!, by kernel_rfl, by kernel_rfl⟩
  ti := by
    intro p hp
    simp only [U, List.mem_cons, List.not_mem_nil, or_false] at hp
    rcases hp with rfl | rfl | rfl | rfl
    · exact ⟨Tryd.prog.types[3]!, by kernel_rfl, by kernel_rfl, by kernel_rfl, by kernel_rfl⟩
    · exact ⟨Tryd.prog.types[9]!, by kernel_rfl, by kernel_rfl, by kernel_rfl, by kernel_rfl⟩
    · exact ⟨Tryd.prog.types[33]!, by kernel_rfl, by kernel_rfl, by kernel_rfl, by kernel_rfl⟩
    · exact ⟨Tryd.prog.types[34]!, by kernel_rfl, by kernel_rfl, by kernel_rfl, by kernel_rfl⟩
  bld := by
    intro p hp; cases hp
  mixed := by kernel_rfl

theorem l20_White_spec (s : ByteArray) (hs : (s : ByteArray).size ≤ 140737488355328) :
    CallsS Tryd.prog 8 [.string s] [] (fun r D => r = .bool true ∧ D = []) := by
  refine CallsS.enter hU Tryd.f8 _ [.tmp 2] 93 Tryd.func8 rfl (by decide) rfl rfl (by kernel_rfl) fun w0 W => ?_
  refine RunC.seq ?_
  refine RunC.region ?_
  refine RunR.sil hU [] 1 1 [0, 2] [(0, .string s), (2, .bool false)] ((True) ∧ True) rfl (by kernel_rfl) ⟨trivial, trivial⟩ ?_
  refine RunR.done (by kernel_rfl) ?_
  refine kseq_n ?_
  refine RunC.seq ?_
  refine RunC.seq ?_
  refine RunC.region ?_
  refine RunR.step (dst := some 13) (op := .call { callee := .value (.func 17), args := #[], argTypes := #[] }) (by kernel_rfl) (Step.call 17 [] (by kernel_rfl) (by kernel_rfl) [] [] [] (l20_awake_spec) [] (by kernel_rfl) (Lend.nil _) ?_)
  rintro _ _ ⟨rfl, rfl⟩
  refine RunR.sil hU [] 1 2 [0, 2, 14] [(0, .string s), (2, .bool false), (14, .bool false)] ((True) ∧ True) rfl (by kernel_rfl) ⟨trivial, trivial⟩ ?_
  refine RunR.done (by kernel_rfl) ?_
  refine kseq_n ?_
  refine RunC.cond (b := false) (by kernel_rfl) (fun h => by cases h) (fun _ => ?_)
  refine RunC.skip ?_
  refine kseq_n ?_
  refine RunC.seq ?_
  refine RunC.seq ?_
  refine RunC.region ?_
  refine RunR.sil hU [] 3 3 [0, 2, 17] [(0, .string s), (2, .bool false), (17, .bool (decide (((s : ByteArray).size : Int) > 10000)))] ((True) ∧ (True) ∧ (True) ∧ True) rfl (by kernel_rfl) ⟨trivial, trivial, trivial, trivial⟩ ?_
  refine RunR.done (by kernel_rfl) ?_
  refine kseq_n ?_
  refine RunC.condp (((s : ByteArray).size : Int) > 10000) (by kernel_rfl) (fun h1 => ?_) (fun h1 => ?_)
  · skip
    refine RunC.seq ?_
    refine RunC.region ?_
    refine RunR.sil hU [] 1 1 [0, 2] [(0, .string s), (2, .bool true)] ((True) ∧ True) rfl (by kernel_rfl) ⟨trivial, trivial⟩ ?_
    refine RunR.done (by kernel_rfl) ?_
    refine kseq_n ?_
    refine RunC.ret ?_
    refine kseq_r ?_
    refine kret_r [.bool true] [] [] ⟨rfl, trivial⟩ (by kernel_rfl) rfl ⟨rfl, rfl⟩
  · skip
    refine RunC.skip ?_
    refine kseq_n ?_
    refine RunC.seq ?_
    refine RunC.region ?_
    refine RunR.sil hU [] 1 1 [2, 19] [(2, .bool false), (19, .string s)] ((True) ∧ True) rfl (by kernel_rfl) ⟨trivial, trivial⟩ ?_
    refine RunR.step (dst := some 20) (op := .call { callee := .value (.func 19), args := #[.tmp 19], argTypes := #[9] }) (by kernel_rfl) (Step.call 19 [.string s] (by kernel_rfl) (by kernel_rfl) [] [] [] (pr_Parts_spec s (by first | assumption | omega | (simp only [List.length_append, List.length_cons, List.length_nil, List.length_set, List.length_replicate, List.length_take, List.length_drop]; omega) | (simp only [fits] at *; omega) | (simp only [List.length_append, List.length_cons, List.length_nil, List.length_set, List.length_replicate, List.length_take, List.length_drop] at *; omega) | (simp; done) | decide)) [] (by kernel_rfl) (Lend.nil _) ?_)
    rintro _ _ ⟨A92, c93, zs4, e5, rfl, rfl, hp6, hp7, hp8⟩
    have hq9 := PartsR.len hp6
    refine RunR.sil hU [] 5 7 [2, 3, 4] [(2, .bool false), (3, .slice A92 zs4.length c93), (4, .int .i64 e5)] ((True) ∧ (True) ∧ (True) ∧ (True) ∧ (True) ∧ True) rfl (by kernel_rfl) ⟨trivial, trivial, trivial, trivial, trivial, trivial⟩ ?_
    refine RunR.done (by kernel_rfl) ?_
    refine kseq_n ?_
    refine RunC.seq ?_
    refine RunC.seq ?_
    refine RunC.region ?_
    refine RunR.sil hU [] 2 2 [2, 3, 24] [(2, .bool false), (3, .slice A92 zs4.length c93), (24, .bool (!decide (e5 = 0)))] ((True) ∧ (True) ∧ True) rfl (by kernel_rfl) ⟨trivial, trivial, trivial⟩ ?_
    refine RunR.done (by kernel_rfl) ?_
    refine kseq_n ?_
    refine RunC.condn (e5 = 0) (by kernel_rfl) (fun h10 => ?_) (fun h10 => ?_)
    · skip
      refine RunC.seq ?_
      refine RunC.region ?_
      refine RunR.sil hU [] 1 1 [2, 3] [(2, .bool true), (3, .slice A92 zs4.length c93)] ((True) ∧ True) rfl (by kernel_rfl) ⟨trivial, trivial⟩ ?_
      refine RunR.done (by kernel_rfl) ?_
      refine kseq_n ?_
      refine RunC.ret ?_
      refine kseq_r ?_
      refine kret_r [.bool true] [] [] ⟨rfl, trivial⟩ (by kernel_rfl) rfl ⟨rfl, rfl⟩
    · skip
      refine RunC.skip ?_
      refine kseq_n ?_
      refine RunC.seq ?_
      refine RunC.region ?_
      refine RunR.step (dst := some 25) (op := .buildSlice 33 0 #[]) (by kernel_rfl) (Step.lit_vals hU 9 16 (.string ⟨#[]⟩) (strV ([] : List ByteArray)) (by kernel_rfl) (by kernel_rfl) (by kernel_rfl) (by simp [strV, Value.cells]) rfl rfl (by kernel_rfl) (fun b11 => ?_))
      refine RunR.sil hU [] 1 2 [2, 3, 25, 26] [(2, .bool false), (3, .slice A92 zs4.length c93), (25, .slice (some ⟨b11, 0, none⟩) 0 0), (26, .slice A92 zs4.length c93)] ((True) ∧ True) rfl (by kernel_rfl) ⟨trivial, trivial⟩ ?_
      refine RunR.step (dst := some 27) (op := .call { callee := .builtin .append, args := #[.tmp 25, .tmp 26], argTypes := #[33, 33] }) (by kernel_rfl) (Step.append_strs hU 9 16 (.string ⟨#[]⟩) 0 1 (some ⟨b11, 0, none⟩) 0 0 ([] : List ByteArray) A92 zs4.length c93 (row 9 1 (.slice A92 zs4.length c93) zs4.length (strV zs4)) zs4 (by kernel_rfl) (by kernel_rfl) (by kernel_rfl) (by kernel_rfl) (by kernel_rfl) (by kernel_rfl) (by kernel_rfl) (tells_row _ _ _ _ _ _) (by first | rfl | omega | (simp only [List.length_cons, List.length_nil] at *; omega)) (by first | rfl | omega | (simp only [List.length_cons, List.length_nil] at *; omega)) (by first | rfl | omega | (simp only [List.length_cons, List.length_nil] at *; omega)) (by first | rfl | omega | (simp only [List.length_cons, List.length_nil] at *; omega)) (by kernel_rfl) (fun Aq12 cq13 hc14 hA15 => ?_))
      have hl16 : (([] : List ByteArray) ++ zs4).length = ([] : List ByteArray).length + zs4.length := List.length_append
      refine RunR.sil hU [] 1 4 [2, 3, 5] [(2, .bool false), (3, .slice A92 zs4.length c93), (5, .slice Aq12 ((([] : List ByteArray) ++ zs4).length) cq13)] ((True) ∧ True) rfl (by kernel_rfl) ⟨trivial, trivial⟩ ?_
      refine RunR.done (by kernel_rfl) ?_
      refine kseq_n ?_
      refine RunC.seq ?_
      refine RunC.region ?_
      refine RunR.sil hU [] 1 1 [2, 3, 5, 29] [(2, .bool false), (3, .slice A92 zs4.length c93), (5, .slice Aq12 ((([] : List ByteArray) ++ zs4).length) cq13), (29, .slice Aq12 ((([] : List ByteArray) ++ zs4).length) cq13)] ((True) ∧ True) rfl (by kernel_rfl) ⟨trivial, trivial⟩ ?_
      refine RunR.step (dst := some 30) (op := .call { callee := .value (.func 23), args := #[.tmp 29], argTypes := #[33] }) (by kernel_rfl) (Step.call 23 [.slice Aq12 ((([] : List ByteArray) ++ zs4).length) cq13] (by kernel_rfl) (by kernel_rfl) [] [vw Aq12 (strV (([] : List ByteArray) ++ zs4))] [row 9 1 (.slice Aq12 ((([] : List ByteArray) ++ zs4).length) cq13) ((([] : List ByteArray) ++ zs4).length) (strV (([] : List ByteArray) ++ zs4)), row 9 1 (.slice A92 zs4.length c93) zs4.length (strV zs4)] (p_White_spec Aq12 cq13 (([] : List ByteArray) ++ zs4) ((([] : List ByteArray) ++ zs4).length) (by first | assumption | omega | (simp only [List.length_append, List.length_cons, List.length_nil, List.length_set, List.length_replicate, List.length_take, List.length_drop]; omega) | (simp only [fits] at *; omega) | (simp only [List.length_append, List.length_cons, List.length_nil, List.length_set, List.length_replicate, List.length_take, List.length_drop] at *; omega) | (simp; done) | decide) (by exact PartsR.may (by assumption)) (by first | assumption | omega | (simp only [List.length_append, List.length_cons, List.length_nil, List.length_set, List.length_replicate, List.length_take, List.length_drop]; omega) | (simp only [fits] at *; omega) | (simp only [List.length_append, List.length_cons, List.length_nil, List.length_set, List.length_replicate, List.length_take, List.length_drop] at *; omega) | (simp; done) | decide) (fun h => hA15 (by first | exact h | (simp at h ⊢; omega))) (by first | rfl | assumption | omega | (simp only [List.length_append, List.length_cons, List.length_nil, List.length_set, List.length_replicate, List.length_take, List.length_drop]; omega) | (simp; done))) [] (by kernel_rfl) ((Lend.nil _).tells 0 (row 9 1 (.slice Aq12 ((([] : List ByteArray) ++ zs4).length) cq13) ((([] : List ByteArray) ++ zs4).length) (strV (([] : List ByteArray) ++ zs4))) Aq12 (strV (([] : List ByteArray) ++ zs4)) (by kernel_rfl) (tells_row _ _ _ _ _ _)) ?_)
      rintro _ _ ⟨A917, c918, zs19, k20, e21, rfl, rfl, hp22, hp23, hp24⟩
      have hq25 := white_len' hp22
      refine RunR.sil hU [] 7 9 [2, 3, 5, 6, 7, 8] [(2, .bool false), (3, .slice A92 zs4.length c93), (5, .slice Aq12 ((([] : List ByteArray) ++ zs4).length) cq13), (6, .slice A917 zs19.length c918), (7, .int .i64 k20), (8, .int .i64 e21)] ((True) ∧ (True) ∧ (True) ∧ (True) ∧ (True) ∧ (True) ∧ (True) ∧ True) rfl (by kernel_rfl) ⟨trivial, trivial, trivial, trivial, trivial, trivial, trivial, trivial⟩ ?_
      refine RunR.done (by kernel_rfl) ?_
      refine kseq_n ?_
      refine RunC.seq ?_
      refine RunC.region ?_
      refine RunR.sil hU [] 1 1 [2, 3, 5, 6, 7, 8, 35] [(2, .bool false), (3, .slice A92 zs4.length c93), (5, .slice Aq12 ((([] : List ByteArray) ++ zs4).length) cq13), (6, .slice A917 zs19.length c918), (7, .int .i64 k20), (8, .int .i64 e21), (35, .slice A92 zs4.length c93)] ((True) ∧ True) rfl (by kernel_rfl) ⟨trivial, trivial⟩ ?_
      refine RunR.step (dst := some 36) (op := .call { callee := .value (.func 24), args := #[.tmp 35], argTypes := #[33] }) (by kernel_rfl) (Step.call 24 [.slice A92 zs4.length c93] (by kernel_rfl) (by kernel_rfl) [] [vw A92 (strV zs4)] [row 9 1 (.slice A917 zs19.length c918) zs19.length (strV zs19), row 9 1 (.slice Aq12 ((([] : List ByteArray) ++ zs4).length) cq13) ((([] : List ByteArray) ++ zs4).length) (strV (([] : List ByteArray) ++ zs4)), row 9 1 (.slice A92 zs4.length c93) zs4.length (strV zs4)] (pr_White_spec A92 c93 zs4 zs4.length (by omega) (by exact PartsR.may (by assumption)) (by first | assumption | omega | (simp only [List.length_append, List.length_cons, List.length_nil, List.length_set, List.length_replicate, List.length_take, List.length_drop]; omega) | (simp only [fits] at *; omega) | (simp only [List.length_append, List.length_cons, List.length_nil, List.length_set, List.length_replicate, List.length_take, List.length_drop] at *; omega) | (simp; done) | decide) (fun h => hp7 (by first | exact h | (simp at h ⊢; omega))) (by first | rfl | assumption | omega | (simp only [List.length_append, List.length_cons, List.length_nil, List.length_set, List.length_replicate, List.length_take, List.length_drop]; omega) | (simp; done))) [] (by kernel_rfl) ((Lend.nil _).tells 2 (row 9 1 (.slice A92 zs4.length c93) zs4.length (strV zs4)) A92 (strV zs4) (by kernel_rfl) (tells_row _ _ _ _ _ _)) ?_)
      rintro _ _ ⟨A926, c927, zs28, k29, e30, rfl, rfl, hp31, hp32, hp33⟩
      have hq34 := white_len hp31
      refine RunR.sil hU [] 7 9 [2, 3, 5, 6, 7, 8, 9, 10, 11] [(2, .bool false), (3, .slice A92 zs4.length c93), (5, .slice Aq12 ((([] : List ByteArray) ++ zs4).length) cq13), (6, .slice A917 zs19.length c918), (7, .int .i64 k20), (8, .int .i64 e21), (9, .slice A926 zs28.length c927), (10, .int .i64 k29), (11, .int .i64 e30)] ((True) ∧ (True) ∧ (True) ∧ (True) ∧ (True) ∧ (True) ∧ (True) ∧ True) rfl (by kernel_rfl) ⟨trivial, trivial, trivial, trivial, trivial, trivial, trivial, trivial⟩ ?_
      refine RunR.done (by kernel_rfl) ?_
      refine kseq_n ?_
      refine RunC.seq ?_
      refine RunC.seq ?_
      refine RunC.region ?_
      refine RunR.sil hU [] 4 4 [2, 3, 5, 6, 7, 8, 9, 10, 43] [(2, .bool false), (3, .slice A92 zs4.length c93), (5, .slice Aq12 ((([] : List ByteArray) ++ zs4).length) cq13), (6, .slice A917 zs19.length c918), (7, .int .i64 k20), (8, .int .i64 e21), (9, .slice A926 zs28.length c927), (10, .int .i64 k29), (43, .bool (!decide (e21 = e30)))] ((True) ∧ (True) ∧ (True) ∧ (True) ∧ True) rfl (by kernel_rfl) ⟨trivial, trivial, trivial, trivial, trivial⟩ ?_
      refine RunR.env [2, 3, 5, 6, 7, 8, 9, 10, 43] [(2, .bool false), (3, .slice A92 zs4.length c93), (5, .slice Aq12 ((([] : List ByteArray) ++ zs4).length) cq13), (6, .slice A917 zs19.length c918), (7, .int .i64 k20), (8, .int .i64 e21), (9, .slice A926 zs28.length c927), (10, .int .i64 k29), (43, .bool (!decide (e21 = e30)))] (by kernel_rfl) ?_
      have hk35 : (e21 = e30) := by exact (white_same hp22 hp31).1
      refine RunR.enveq [(2, .bool false), (3, .slice A92 zs4.length c93), (5, .slice Aq12 ((([] : List ByteArray) ++ zs4).length) cq13), (6, .slice A917 zs19.length c918), (7, .int .i64 k20), (8, .int .i64 e21), (9, .slice A926 zs28.length c927), (10, .int .i64 k29), (43, .bool false)] (by rw [decide_eq_true hk35]; try rfl) ?_
      refine RunR.sil hU [] 5 9 [2, 3, 5, 6, 7, 8, 9, 48] [(2, .bool false), (3, .slice A92 zs4.length c93), (5, .slice Aq12 ((([] : List ByteArray) ++ zs4).length) cq13), (6, .slice A917 zs19.length c918), (7, .int .i64 k20), (8, .int .i64 e21), (9, .slice A926 zs28.length c927), (48, .bool (!decide (k20 = k29)))] ((True) ∧ (True) ∧ (True) ∧ (True) ∧ (True) ∧ True) rfl (by kernel_rfl) ⟨trivial, trivial, trivial, trivial, trivial, trivial⟩ ?_
      refine RunR.env [2, 3, 5, 6, 7, 8, 9, 48] [(2, .bool false), (3, .slice A92 zs4.length c93), (5, .slice Aq12 ((([] : List ByteArray) ++ zs4).length) cq13), (6, .slice A917 zs19.length c918), (7, .int .i64 k20), (8, .int .i64 e21), (9, .slice A926 zs28.length c927), (48, .bool (!decide (k20 = k29)))] (by kernel_rfl) ?_
      have hk36 : (k20 = k29) := by exact (white_same hp22 hp31).2.1
      refine RunR.enveq [(2, .bool false), (3, .slice A92 zs4.length c93), (5, .slice Aq12 ((([] : List ByteArray) ++ zs4).length) cq13), (6, .slice A917 zs19.length c918), (7, .int .i64 k20), (8, .int .i64 e21), (9, .slice A926 zs28.length c927), (48, .bool false)] (by rw [decide_eq_true hk36]; try rfl) ?_
      refine RunR.sil hU [] 2 11 [2, 3, 5, 6, 7, 8, 48, 49, 50] [(2, .bool false), (3, .slice A92 zs4.length c93), (5, .slice Aq12 ((([] : List ByteArray) ++ zs4).length) cq13), (6, .slice A917 zs19.length c918), (7, .int .i64 k20), (8, .int .i64 e21), (48, .bool false), (49, .slice A917 zs19.length c918), (50, .slice A926 zs28.length c927)] ((True) ∧ (True) ∧ True) rfl (by kernel_rfl) ⟨trivial, trivial, trivial⟩ ?_
      refine RunR.step (dst := some 51) (op := .call { callee := .value (.func 20), args := #[.tmp 49, .tmp 50], argTypes := #[33, 33] }) (by kernel_rfl) (Step.call 20 [.slice A917 zs19.length c918, .slice A926 zs28.length c927] (by kernel_rfl) (by kernel_rfl) [] [vw A917 (strV zs19), vw A926 (strV zs28)] [row 9 1 (.slice A926 zs28.length c927) zs28.length (strV zs28), row 9 1 (.slice A917 zs19.length c918) zs19.length (strV zs19), row 9 1 (.slice Aq12 ((([] : List ByteArray) ++ zs4).length) cq13) ((([] : List ByteArray) ++ zs4).length) (strV (([] : List ByteArray) ++ zs4)), row 9 1 (.slice A92 zs4.length c93) zs4.length (strV zs4)] (pr_Same_spec A917 c918 zs19 A926 c927 zs28 zs19.length zs28.length (by omega) (by first | exact (PartsR.may (by assumption)).sz | exact (white_may (by assumption) (PartsR.may (by assumption))).sz) (by first | assumption | omega | (simp only [List.length_append, List.length_cons, List.length_nil, List.length_set, List.length_replicate, List.length_take, List.length_drop]; omega) | (simp only [fits] at *; omega) | (simp only [List.length_append, List.length_cons, List.length_nil, List.length_set, List.length_replicate, List.length_take, List.length_drop] at *; omega) | (simp; done) | decide) (by omega) (by first | exact (PartsR.may (by assumption)).sz | exact (white_may (by assumption) (PartsR.may (by assumption))).sz) (by first | assumption | omega | (simp only [List.length_append, List.length_cons, List.length_nil, List.length_set, List.length_replicate, List.length_take, List.length_drop]; omega) | (simp only [fits] at *; omega) | (simp only [List.length_append, List.length_cons, List.length_nil, List.length_set, List.length_replicate, List.length_take, List.length_drop] at *; omega) | (simp; done) | decide) (by first | rfl | assumption | omega | (simp only [List.length_append, List.length_cons, List.length_nil, List.length_set, List.length_replicate, List.length_take, List.length_drop]; omega) | (simp; done)) (by first | rfl | assumption | omega | (simp only [List.length_append, List.length_cons, List.length_nil, List.length_set, List.length_replicate, List.length_take, List.length_drop]; omega) | (simp; done))) [] (by kernel_rfl) (((Lend.nil _).tells 0 (row 9 1 (.slice A926 zs28.length c927) zs28.length (strV zs28)) A926 (strV zs28) (by kernel_rfl) (tells_row _ _ _ _ _ _)).tells 1 (row 9 1 (.slice A917 zs19.length c918) zs19.length (strV zs19)) A917 (strV zs19) (by kernel_rfl) (tells_row _ _ _ _ _ _)) ?_)
      rintro _ _ ⟨rfl, rfl⟩
      refine RunR.sil hU [] 3 15 [2, 3, 5, 6, 7, 8, 54] [(2, .bool false), (3, .slice A92 zs4.length c93), (5, .slice Aq12 ((([] : List ByteArray) ++ zs4).length) cq13), (6, .slice A917 zs19.length c918), (7, .int .i64 k20), (8, .int .i64 e21), (54, .bool (!decide (zs19 = zs28)))] ((True) ∧ (True) ∧ (True) ∧ True) rfl (by kernel_rfl) ⟨trivial, trivial, trivial, trivial⟩ ?_
      refine RunR.env [2, 3, 5, 6, 7, 8, 54] [(2, .bool false), (3, .slice A92 zs4.length c93), (5, .slice Aq12 ((([] : List ByteArray) ++ zs4).length) cq13), (6, .slice A917 zs19.length c918), (7, .int .i64 k20), (8, .int .i64 e21), (54, .bool (!decide (zs19 = zs28)))] (by kernel_rfl) ?_
      have hk37 : (zs19 = zs28) := by exact (white_same hp22 hp31).2.2
      refine RunR.enveq [(2, .bool false), (3, .slice A92 zs4.length c93), (5, .slice Aq12 ((([] : List ByteArray) ++ zs4).length) cq13), (6, .slice A917 zs19.length c918), (7, .int .i64 k20), (8, .int .i64 e21), (54, .bool false)] (by rw [decide_eq_true hk37]; try rfl) ?_
      refine RunR.sil hU [] 2 17 [2, 3, 6, 7, 8, 54, 55, 56] [(2, .bool false), (3, .slice A92 zs4.length c93), (6, .slice A917 zs19.length c918), (7, .int .i64 k20), (8, .int .i64 e21), (54, .bool false), (55, .slice Aq12 ((([] : List ByteArray) ++ zs4).length) cq13), (56, .slice A92 zs4.length c93)] ((True) ∧ (True) ∧ True) rfl (by kernel_rfl) ⟨trivial, trivial, trivial⟩ ?_
      refine RunR.step (dst := some 57) (op := .call { callee := .value (.func 20), args := #[.tmp 55, .tmp 56], argTypes := #[33, 33] }) (by kernel_rfl) (Step.call 20 [.slice Aq12 ((([] : List ByteArray) ++ zs4).length) cq13, .slice A92 zs4.length c93] (by kernel_rfl) (by kernel_rfl) [] [vw Aq12 (strV (([] : List ByteArray) ++ zs4)), vw A92 (strV zs4)] [row 9 1 (.slice A926 zs28.length c927) zs28.length (strV zs28), row 9 1 (.slice A917 zs19.length c918) zs19.length (strV zs19), row 9 1 (.slice Aq12 ((([] : List ByteArray) ++ zs4).length) cq13) ((([] : List ByteArray) ++ zs4).length) (strV (([] : List ByteArray) ++ zs4)), row 9 1 (.slice A92 zs4.length c93) zs4.length (strV zs4)] (pr_Same_spec Aq12 cq13 (([] : List ByteArray) ++ zs4) A92 c93 zs4 ((([] : List ByteArray) ++ zs4).length) zs4.length (by first | assumption | omega | (simp only [List.length_append, List.length_cons, List.length_nil, List.length_set, List.length_replicate, List.length_take, List.length_drop]; omega) | (simp only [fits] at *; omega) | (simp only [List.length_append, List.length_cons, List.length_nil, List.length_set, List.length_replicate, List.length_take, List.length_drop] at *; omega) | (simp; done) | decide) (by exact SzOK.app SzOK.nil (PartsR.may (by assumption)).sz) (by first | assumption | omega | (simp only [List.length_append, List.length_cons, List.length_nil, List.length_set, List.length_replicate, List.length_take, List.length_drop]; omega) | (simp only [fits] at *; omega) | (simp only [List.length_append, List.length_cons, List.length_nil, List.length_set, List.length_replicate, List.length_take, List.length_drop] at *; omega) | (simp; done) | decide) (by omega) (by first | exact (PartsR.may (by assumption)).sz | exact (white_may (by assumption) (PartsR.may (by assumption))).sz) (by first | assumption | omega | (simp only [List.length_append, List.length_cons, List.length_nil, List.length_set, List.length_replicate, List.length_take, List.length_drop]; omega) | (simp only [fits] at *; omega) | (simp only [List.length_append, List.length_cons, List.length_nil, List.length_set, List.length_replicate, List.length_take, List.length_drop] at *; omega) | (simp; done) | decide) (by first | rfl | assumption | omega | (simp only [List.length_append, List.length_cons, List.length_nil, List.length_set, List.length_replicate, List.length_take, List.length_drop]; omega) | (simp; done)) (by first | rfl | assumption | omega | (simp only [List.length_append, List.length_cons, List.length_nil, List.length_set, List.length_replicate, List.length_take, List.length_drop]; omega) | (simp; done))) [] (by kernel_rfl) (((Lend.nil _).tells 3 (row 9 1 (.slice A92 zs4.length c93) zs4.length (strV zs4)) A92 (strV zs4) (by kernel_rfl) (tells_row _ _ _ _ _ _)).tells 2 (row 9 1 (.slice Aq12 ((([] : List ByteArray) ++ zs4).length) cq13) ((([] : List ByteArray) ++ zs4).length) (strV (([] : List ByteArray) ++ zs4))) Aq12 (strV (([] : List ByteArray) ++ zs4)) (by kernel_rfl) (tells_row _ _ _ _ _ _)) ?_)
      rintro _ _ ⟨rfl, rfl⟩
      refine RunR.sil hU [] 2 20 [2, 3, 6, 7, 8, 59] [(2, .bool false), (3, .slice A92 zs4.length c93), (6, .slice A917 zs19.length c918), (7, .int .i64 k20), (8, .int .i64 e21), (59, .bool (!decide ((([] : List ByteArray) ++ zs4) = zs4)))] ((True) ∧ (True) ∧ True) rfl (by kernel_rfl) ⟨trivial, trivial, trivial⟩ ?_
      refine RunR.env [2, 3, 6, 7, 8, 59] [(2, .bool false), (3, .slice A92 zs4.length c93), (6, .slice A917 zs19.length c918), (7, .int .i64 k20), (8, .int .i64 e21), (59, .bool (!decide ((([] : List ByteArray) ++ zs4) = zs4)))] (by kernel_rfl) ?_
      have hk38 : ((([] : List ByteArray) ++ zs4) = zs4) := by rfl
      refine RunR.enveq [(2, .bool false), (3, .slice A92 zs4.length c93), (6, .slice A917 zs19.length c918), (7, .int .i64 k20), (8, .int .i64 e21), (59, .bool false)] (by rw [decide_eq_true hk38]; try rfl) ?_
      refine RunR.done (by kernel_rfl) ?_
      refine kseq_n ?_
      refine RunC.cond (b := false) (by kernel_rfl) (fun h => by cases h) (fun _ => ?_)
      refine RunC.skip ?_
      refine kseq_n ?_
      refine RunC.seq ?_
      refine RunC.seq ?_
      refine RunC.region ?_
      refine RunR.sil hU [] 3 3 [2, 3, 6, 7, 62] [(2, .bool false), (3, .slice A92 zs4.length c93), (6, .slice A917 zs19.length c918), (7, .int .i64 k20), (62, .bool (!decide (e21 = 0)))] ((True) ∧ (True) ∧ (True) ∧ True) rfl (by kernel_rfl) ⟨trivial, trivial, trivial, trivial⟩ ?_
      refine RunR.env [2, 3, 6, 7, 62] [(2, .bool false), (3, .slice A92 zs4.length c93), (6, .slice A917 zs19.length c918), (7, .int .i64 k20), (62, .bool (!decide (e21 = 0)))] (by kernel_rfl) ?_
      by_cases h39 : e21 = 0
      · skip
        refine RunR.enveq [(2, .bool false), (3, .slice A92 zs4.length c93), (6, .slice A917 zs19.length c918), (7, .int .i64 k20), (62, .bool false)] (by rw [decide_eq_true h39]; try rfl) ?_
        refine RunR.sil hU [] 4 7 [2, 3, 6, 7, 66] [(2, .bool false), (3, .slice A92 zs4.length c93), (6, .slice A917 zs19.length c918), (7, .int .i64 k20), (66, .bool (decide (((zs4.length : Nat) : Int) = 0)))] ((True) ∧ (True) ∧ (True) ∧ (True) ∧ True) rfl (by kernel_rfl) ⟨trivial, trivial, trivial, trivial, trivial⟩ ?_
        refine RunR.done (by kernel_rfl) ?_
        refine kseq_n ?_
        refine RunC.condp (((zs4.length : Nat) : Int) = 0) (by kernel_rfl) (fun h40 => ?_) (fun h40 => ?_)
        · skip
          refine RunC.seq ?_
          refine RunC.region ?_
          refine RunR.sil hU [] 4 4 [2, 3, 6, 7] [(2, .bool (decide (((zs19.length : Nat) : Int) = 0))), (3, .slice A92 zs4.length c93), (6, .slice A917 zs19.length c918), (7, .int .i64 k20)] ((True) ∧ (True) ∧ (True) ∧ (True) ∧ True) rfl (by kernel_rfl) ⟨trivial, trivial, trivial, trivial, trivial⟩ ?_
          refine RunR.done (by kernel_rfl) ?_
          refine kseq_n ?_
          refine RunC.ret ?_
          refine kseq_r ?_
          refine kret_r [.bool (decide (((zs19.length : Nat) : Int) = 0))] [] [] ⟨rfl, trivial⟩ (by kernel_rfl) rfl ⟨(by first | rfl | (first | rfl | (exact congrArg Value.bool (decide_eq_true (white_none hp22 (by first | exact .inl (by assumption) | exact .inr (by assumption))))))), (by first | rfl | (first | rfl | (exact congrArg Value.bool (decide_eq_true (white_none hp22 (by first | exact .inl (by assumption) | exact .inr (by assumption)))))))⟩
        · skip
          refine RunC.skip ?_
          refine kseq_n ?_
          refine RunC.seq ?_
          refine RunC.region ?_
          refine RunR.sil hU [] 3 3 [2, 3, 6, 7, 12] [(2, .bool false), (3, .slice A92 zs4.length c93), (6, .slice A917 zs19.length c918), (7, .int .i64 k20), (12, .int .i64 ((zs4.length : Nat) : Int))] ((True) ∧ (True) ∧ (True) ∧ True) rfl (by kernel_rfl) ⟨trivial, trivial, trivial, trivial⟩ ?_
          refine RunR.done (by kernel_rfl) ?_
          refine kseq_n ?_
          refine RunC.seq ?_
          refine RunC.seq ?_
          refine RunC.region ?_
          refine RunR.sil hU [] 2 2 [2, 3, 6, 12, 73] [(2, .bool false), (3, .slice A92 zs4.length c93), (6, .slice A917 zs19.length c918), (12, .int .i64 ((zs4.length : Nat) : Int)), (73, .bool (decide (k20 = 2)))] ((True) ∧ (True) ∧ True) rfl (by kernel_rfl) ⟨trivial, trivial, trivial⟩ ?_
          refine RunR.done (by kernel_rfl) ?_
          refine kseq_n ?_
          refine RunC.condp (k20 = 2) (by kernel_rfl) (fun h41 => ?_) (fun h41 => ?_)
          · skip
            refine RunC.region ?_
            refine RunR.sil hU [1] 3 3 [2, 3, 6, 12] [(2, .bool false), (3, .slice A92 zs4.length c93), (6, .slice A917 zs19.length c918), (12, .int .i64 (((zs4.length : Nat) : Int) - 1))] ((True) ∧ (-9223372036854775808 ≤ (((zs4.length : Nat) : Int) - 1) ∧ (((zs4.length : Nat) : Int) - 1) < 9223372036854775808) ∧ (True) ∧ True) rfl (by kernel_rfl) ⟨trivial, (by omega), trivial, trivial⟩ ?_
            refine RunR.done (by kernel_rfl) ?_
            refine kseq_n ?_
            refine RunC.seq ?_
            refine RunC.regionU hU 18 [] [] [17] (bm 18 0) (by kernel_rfl) (by kernel_rfl) (by kernel_rfl) ?_
            refine RunU.sil hU false 0 (bm 18 1) 76 (.slice A917 zs19.length c918) (True) (by kernel_rfl) trivial (by kernel_rfl) (by kernel_rfl) (fun _ _ _ h => h) ?_
            refine RunU.sil hU false 1 (bm 18 3) 77 (.int .i64 ((zs19.length : Nat) : Int)) (True) (by kernel_rfl) trivial (by kernel_rfl) (by kernel_rfl) (fun _ _ _ h => h) ?_
            refine RunU.sil hU false 2 (bm 18 7) 78 (.int .i64 (((zs4.length : Nat) : Int) - 1)) (True) (by kernel_rfl) trivial (by kernel_rfl) (by kernel_rfl) (fun _ _ _ h => h) ?_
            refine RunU.sil hU false 3 (bm 18 15) 79 (.bool (decide (((zs19.length : Nat) : Int) = (((zs4.length : Nat) : Int) - 1)))) (True) (by kernel_rfl) trivial (by kernel_rfl) (by kernel_rfl) (fun _ _ _ h => h) ?_
            refine RunU.sil hU false 4 (bm 18 31) 80 (.bool (decide (((zs19.length : Nat) : Int) = (((zs4.length : Nat) : Int) - 1)))) (True) (by kernel_rfl) trivial (by kernel_rfl) (by kernel_rfl) (fun _ _ _ h => h) ?_
            refine RunU.env [2, 3, 6, 12, 76, 77, 78, 79, 80] [(2, .bool false), (3, .slice A92 zs4.length c93), (6, .slice A917 zs19.length c918), (12, .int .i64 (((zs4.length : Nat) : Int) - 1)), (76, .slice A917 zs19.length c918), (77, .int .i64 ((zs19.length : Nat) : Int)), (78, .int .i64 (((zs4.length : Nat) : Int) - 1)), (79, .bool (decide (((zs19.length : Nat) : Int) = (((zs4.length : Nat) : Int) - 1)))), (80, .bool (decide (((zs19.length : Nat) : Int) = (((zs4.length : Nat) : Int) - 1))))] (by kernel_rfl) ?_
            have hk42 : (((zs19.length : Nat) : Int) = (((zs4.length : Nat) : Int) - 1)) := by have h_ := (white_some hp22 (by assumption) (by assumption)).1; split at h_ <;> omega
            refine RunU.enveq [(2, .bool false), (3, .slice A92 zs4.length c93), (6, .slice A917 zs19.length c918), (12, .int .i64 (((zs4.length : Nat) : Int) - 1)), (76, .slice A917 zs19.length c918), (77, .int .i64 ((zs19.length : Nat) : Int)), (78, .int .i64 (((zs4.length : Nat) : Int) - 1)), (79, .bool true), (80, .bool true)] (by rw [decide_eq_true hk42]; try rfl) ?_
            refine RunU.sil hU false 5 (bm 18 63) 81 (.slice A917 zs19.length c918) (True) (by kernel_rfl) trivial (by kernel_rfl) (by kernel_rfl) (fun _ _ _ h => h) ?_
            refine RunU.sil hU false 6 (bm 18 127) 82 (.slice A92 zs4.length c93) (True) (by kernel_rfl) trivial (by kernel_rfl) (by kernel_rfl) (fun _ _ _ h => h) ?_
            refine RunU.sil hU false 7 (bm 18 255) 83 (.int .i64 ((zs4.length : Nat) : Int)) (True) (by kernel_rfl) trivial (by kernel_rfl) (by kernel_rfl) (fun _ _ _ h => h) ?_
            refine RunU.sil hU true 8 (bm 18 511) 84 (.int .i64 (((zs4.length : Nat) : Int) - 1)) (-9223372036854775808 ≤ (((zs4.length : Nat) : Int) - 1) ∧ (((zs4.length : Nat) : Int) - 1) < 9223372036854775808) (by kernel_rfl) (by omega) (by kernel_rfl) (by kernel_rfl) (fun _ _ _ h => h) ?_
            refine RunU.sil hU false 9 (bm 18 1023) 85 (.slice A917 ((((zs4.length : Nat) : Int) - 1).toNat) c918) (0 ≤ (((zs4.length : Nat) : Int) - 1) ∧ (((zs4.length : Nat) : Int) - 1) ≤ ((c918 : Nat) : Int)) (by kernel_rfl) (by omega) (by kernel_rfl) (by kernel_rfl) (fun _ _ _ h => h) ?_
            obtain ⟨ss43, hz44⟩ : ∃ z : List ByteArray, z = zs19.take ((((zs4.length : Nat) : Int) - 1).toNat) := ⟨_, rfl⟩
            have hl45 : ss43.length = (((zs4.length : Nat) : Int) - 1).toNat := by rw [hz44, List.length_take]; omega
            have hB46_t : Tells (row 9 1 (.slice A917 zs19.length c918) zs19.length (strV zs19)) (A917) (strV ss43) := by rw [hz44]; exact tells_take_strs (tells_row _ _ _ _ _ _) _
            refine RunU.sil hU false 10 (bm 18 2047) 86 (.slice A92 zs4.length c93) (True) (by kernel_rfl) trivial (by kernel_rfl) (by kernel_rfl) (fun _ _ _ h => h) ?_
            refine RunU.sil hU false 11 (bm 18 4095) 87 (.slice A92 zs4.length c93) (True) (by kernel_rfl) trivial (by kernel_rfl) (by kernel_rfl) (fun _ _ _ h => h) ?_
            refine RunU.sil hU false 12 (bm 18 8191) 88 (.int .i64 ((zs4.length : Nat) : Int)) (True) (by kernel_rfl) trivial (by kernel_rfl) (by kernel_rfl) (fun _ _ _ h => h) ?_
            refine RunU.sil hU true 13 (bm 18 16383) 89 (.int .i64 (((zs4.length : Nat) : Int) - 1)) (-9223372036854775808 ≤ (((zs4.length : Nat) : Int) - 1) ∧ (((zs4.length : Nat) : Int) - 1) < 9223372036854775808) (by kernel_rfl) (by omega) (by kernel_rfl) (by kernel_rfl) (fun _ _ _ h => h) ?_
            refine RunU.sil hU false 14 (bm 18 32767) 90 (.slice A92 ((((zs4.length : Nat) : Int) - 1).toNat) c93) (0 ≤ (((zs4.length : Nat) : Int) - 1) ∧ (((zs4.length : Nat) : Int) - 1) ≤ ((c93 : Nat) : Int)) (by kernel_rfl) (by omega) (by kernel_rfl) (by kernel_rfl) (fun _ _ _ h => h) ?_
            obtain ⟨ss47, hz48⟩ : ∃ z : List ByteArray, z = zs4.take ((((zs4.length : Nat) : Int) - 1).toNat) := ⟨_, rfl⟩
            have hl49 : ss47.length = (((zs4.length : Nat) : Int) - 1).toNat := by rw [hz48, List.length_take]; omega
            have hB50_t : Tells (row 9 1 (.slice A92 zs4.length c93) zs4.length (strV zs4)) (A92) (strV ss47) := by rw [hz48]; exact tells_take_strs (tells_row _ _ _ _ _ _) _
            refine RunU.one (dst := some 91) (op := .call { callee := .value (.func 20), args := #[.tmp 85, .tmp 90], argTypes := #[33, 33] }) 15 (bm 18 65535) [] (by kernel_rfl) (by kernel_rfl) (Step.call 20 [.slice A917 ((((zs4.length : Nat) : Int) - 1).toNat) c918, .slice A92 ((((zs4.length : Nat) : Int) - 1).toNat) c93] (by kernel_rfl) (by kernel_rfl) [] [vw A917 (strV ss43), vw A92 (strV ss47)] [row 9 1 (.slice A926 zs28.length c927) zs28.length (strV zs28), row 9 1 (.slice A917 zs19.length c918) zs19.length (strV zs19), row 9 1 (.slice Aq12 ((([] : List ByteArray) ++ zs4).length) cq13) ((([] : List ByteArray) ++ zs4).length) (strV (([] : List ByteArray) ++ zs4)), row 9 1 (.slice A92 zs4.length c93) zs4.length (strV zs4)] (pr_Same_spec A917 c918 ss43 A92 c93 ss47 ((((zs4.length : Nat) : Int) - 1).toNat) ((((zs4.length : Nat) : Int) - 1).toNat) (by first | assumption | omega | (simp only [List.length_append, List.length_cons, List.length_nil, List.length_set, List.length_replicate, List.length_take, List.length_drop]; omega) | (simp only [fits] at *; omega) | (simp only [List.length_append, List.length_cons, List.length_nil, List.length_set, List.length_replicate, List.length_take, List.length_drop] at *; omega) | (simp; done) | decide) (by simp only [hz44, hz48]; first | exact SzOK.take (PartsR.may (by assumption)).sz _ | exact SzOK.take (white_may (by assumption) (PartsR.may (by assumption))).sz _) (by first | assumption | omega | (simp only [List.length_append, List.length_cons, List.length_nil, List.length_set, List.length_replicate, List.length_take, List.length_drop]; omega) | (simp only [fits] at *; omega) | (simp only [List.length_append, List.length_cons, List.length_nil, List.length_set, List.length_replicate, List.length_take, List.length_drop] at *; omega) | (simp; done) | decide) (by first | assumption | omega | (simp only [List.length_append, List.length_cons, List.length_nil, List.length_set, List.length_replicate, List.length_take, List.length_drop]; omega) | (simp only [fits] at *; omega) | (simp only [List.length_append, List.length_cons, List.length_nil, List.length_set, List.length_replicate, List.length_take, List.length_drop] at *; omega) | (simp; done) | decide) (by simp only [hz44, hz48]; first | exact SzOK.take (PartsR.may (by assumption)).sz _ | exact SzOK.take (white_may (by assumption) (PartsR.may (by assumption))).sz _) (by first | assumption | omega | (simp only [List.length_append, List.length_cons, List.length_nil, List.length_set, List.length_replicate, List.length_take, List.length_drop]; omega) | (simp only [fits] at *; omega) | (simp only [List.length_append, List.length_cons, List.length_nil, List.length_set, List.length_replicate, List.length_take, List.length_drop] at *; omega) | (simp; done) | decide) (by first | rfl | assumption | omega | (simp only [List.length_append, List.length_cons, List.length_nil, List.length_set, List.length_replicate, List.length_take, List.length_drop]; omega) | (simp; done)) (by first | rfl | assumption | omega | (simp only [List.length_append, List.length_cons, List.length_nil, List.length_set, List.length_replicate, List.length_take, List.length_drop]; omega) | (simp; done))) [] (by kernel_rfl) (((Lend.nil _).tells 3 (row 9 1 (.slice A92 zs4.length c93) zs4.length (strV zs4)) A92 (strV ss47) (by kernel_rfl) (hB50_t)).tells 1 (row 9 1 (.slice A917 zs19.length c918) zs19.length (strV zs19)) A917 (strV ss43) (by kernel_rfl) (hB46_t)) ?_)
            rintro _ _ ⟨rfl, rfl⟩
            refine ⟨.inl (by kernel_rfl), ?_⟩
            refine RunU.sil hU false 16 (bm 18 131071) 92 (.bool (decide (ss43 = ss47))) (True) (by kernel_rfl) trivial (by kernel_rfl) (by kernel_rfl) (fun _ _ _ h => h) ?_
            refine RunU.sil hU false 17 (bm 18 262143) 2 (.bool (decide (ss43 = ss47))) (True) (by kernel_rfl) trivial (by kernel_rfl) (by kernel_rfl) (fun _ _ _ h => h) ?_
            refine RunU.env [2, 3, 6, 12, 76, 77, 78, 79, 80, 81, 82, 83, 84, 85, 86, 87, 88, 89, 90, 91, 92] [(2, .bool (decide (ss43 = ss47))), (3, .slice A92 zs4.length c93), (6, .slice A917 zs19.length c918), (12, .int .i64 (((zs4.length : Nat) : Int) - 1)), (76, .slice A917 zs19.length c918), (77, .int .i64 ((zs19.length : Nat) : Int)), (78, .int .i64 (((zs4.length : Nat) : Int) - 1)), (79, .bool true), (80, .bool true), (81, .slice A917 zs19.length c918), (82, .slice A92 zs4.length c93), (83, .int .i64 ((zs4.length : Nat) : Int)), (84, .int .i64 (((zs4.length : Nat) : Int) - 1)), (85, .slice A917 ((((zs4.length : Nat) : Int) - 1).toNat) c918), (86, .slice A92 zs4.length c93), (87, .slice A92 zs4.length c93), (88, .int .i64 ((zs4.length : Nat) : Int)), (89, .int .i64 (((zs4.length : Nat) : Int) - 1)), (90, .slice A92 ((((zs4.length : Nat) : Int) - 1).toNat) c93), (91, .bool (decide (ss43 = ss47))), (92, .bool (decide (ss43 = ss47)))] (by kernel_rfl) ?_
            have hk51 : (ss43 = ss47) := by simp only [hz44, hz48]; exact take_eq (white_some hp22 (by assumption) (by assumption)).2 (by omega)
            refine RunU.enveq [(2, .bool true), (3, .slice A92 zs4.length c93), (6, .slice A917 zs19.length c918), (12, .int .i64 (((zs4.length : Nat) : Int) - 1)), (76, .slice A917 zs19.length c918), (77, .int .i64 ((zs19.length : Nat) : Int)), (78, .int .i64 (((zs4.length : Nat) : Int) - 1)), (79, .bool true), (80, .bool true), (81, .slice A917 zs19.length c918), (82, .slice A92 zs4.length c93), (83, .int .i64 ((zs4.length : Nat) : Int)), (84, .int .i64 (((zs4.length : Nat) : Int) - 1)), (85, .slice A917 ((((zs4.length : Nat) : Int) - 1).toNat) c918), (86, .slice A92 zs4.length c93), (87, .slice A92 zs4.length c93), (88, .int .i64 ((zs4.length : Nat) : Int)), (89, .int .i64 (((zs4.length : Nat) : Int) - 1)), (90, .slice A92 ((((zs4.length : Nat) : Int) - 1).toNat) c93), (91, .bool true), (92, .bool true)] (by rw [decide_eq_true hk51]; try rfl) ?_
            refine RunU.env [2] [(2, .bool true)] (by kernel_rfl) ?_
            refine RunU.done (by kernel_rfl) ?_
            refine kseq_n ?_
            refine RunC.ret ?_
            refine kret_r [.bool true] [] [] ⟨rfl, trivial⟩ (by kernel_rfl) rfl ⟨(by first | rfl | (first | rfl | (exact congrArg Value.bool (decide_eq_true (white_none hp22 (by first | exact .inl (by assumption) | exact .inr (by assumption))))))), (by first | rfl | (first | rfl | (exact congrArg Value.bool (decide_eq_true (white_none hp22 (by first | exact .inl (by assumption) | exact .inr (by assumption)))))))⟩
          · skip
            refine RunC.skip ?_
            refine kseq_n ?_
            refine RunC.seq ?_
            refine RunC.regionU hU 18 [] [] [17] (bm 18 0) (by kernel_rfl) (by kernel_rfl) (by kernel_rfl) ?_
            refine RunU.sil hU false 0 (bm 18 1) 76 (.slice A917 zs19.length c918) (True) (by kernel_rfl) trivial (by kernel_rfl) (by kernel_rfl) (fun _ _ _ h => h) ?_
            refine RunU.sil hU false 1 (bm 18 3) 77 (.int .i64 ((zs19.length : Nat) : Int)) (True) (by kernel_rfl) trivial (by kernel_rfl) (by kernel_rfl) (fun _ _ _ h => h) ?_
            refine RunU.sil hU false 2 (bm 18 7) 78 (.int .i64 ((zs4.length : Nat) : Int)) (True) (by kernel_rfl) trivial (by kernel_rfl) (by kernel_rfl) (fun _ _ _ h => h) ?_
            refine RunU.sil hU false 3 (bm 18 15) 79 (.bool (decide (((zs19.length : Nat) : Int) = ((zs4.length : Nat) : Int)))) (True) (by kernel_rfl) trivial (by kernel_rfl) (by kernel_rfl) (fun _ _ _ h => h) ?_
            refine RunU.sil hU false 4 (bm 18 31) 80 (.bool (decide (((zs19.length : Nat) : Int) = ((zs4.length : Nat) : Int)))) (True) (by kernel_rfl) trivial (by kernel_rfl) (by kernel_rfl) (fun _ _ _ h => h) ?_
            refine RunU.env [2, 3, 6, 12, 73, 76, 77, 78, 79, 80] [(2, .bool false), (3, .slice A92 zs4.length c93), (6, .slice A917 zs19.length c918), (12, .int .i64 ((zs4.length : Nat) : Int)), (73, .bool (decide (k20 = 2))), (76, .slice A917 zs19.length c918), (77, .int .i64 ((zs19.length : Nat) : Int)), (78, .int .i64 ((zs4.length : Nat) : Int)), (79, .bool (decide (((zs19.length : Nat) : Int) = ((zs4.length : Nat) : Int)))), (80, .bool (decide (((zs19.length : Nat) : Int) = ((zs4.length : Nat) : Int))))] (by kernel_rfl) ?_
            have hk52 : (((zs19.length : Nat) : Int) = ((zs4.length : Nat) : Int)) := by have h_ := (white_some hp22 (by assumption) (by assumption)).1; split at h_ <;> omega
            refine RunU.enveq [(2, .bool false), (3, .slice A92 zs4.length c93), (6, .slice A917 zs19.length c918), (12, .int .i64 ((zs4.length : Nat) : Int)), (73, .bool (decide (k20 = 2))), (76, .slice A917 zs19.length c918), (77, .int .i64 ((zs19.length : Nat) : Int)), (78, .int .i64 ((zs4.length : Nat) : Int)), (79, .bool true), (80, .bool true)] (by rw [decide_eq_true hk52]; try rfl) ?_
            refine RunU.sil hU false 5 (bm 18 63) 81 (.slice A917 zs19.length c918) (True) (by kernel_rfl) trivial (by kernel_rfl) (by kernel_rfl) (fun _ _ _ h => h) ?_
            refine RunU.sil hU false 6 (bm 18 127) 82 (.slice A92 zs4.length c93) (True) (by kernel_rfl) trivial (by kernel_rfl) (by kernel_rfl) (fun _ _ _ h => h) ?_
            refine RunU.sil hU false 7 (bm 18 255) 83 (.int .i64 ((zs4.length : Nat) : Int)) (True) (by kernel_rfl) trivial (by kernel_rfl) (by kernel_rfl) (fun _ _ _ h => h) ?_
            refine RunU.sil hU true 8 (bm 18 511) 84 (.int .i64 (((zs4.length : Nat) : Int) - 1)) (-9223372036854775808 ≤ (((zs4.length : Nat) : Int) - 1) ∧ (((zs4.length : Nat) : Int) - 1) < 9223372036854775808) (by kernel_rfl) (by omega) (by kernel_rfl) (by kernel_rfl) (fun _ _ _ h => h) ?_
            refine RunU.sil hU false 9 (bm 18 1023) 85 (.slice A917 ((((zs4.length : Nat) : Int) - 1).toNat) c918) (0 ≤ (((zs4.length : Nat) : Int) - 1) ∧ (((zs4.length : Nat) : Int) - 1) ≤ ((c918 : Nat) : Int)) (by kernel_rfl) (by omega) (by kernel_rfl) (by kernel_rfl) (fun _ _ _ h => h) ?_
            obtain ⟨ss53, hz54⟩ : ∃ z : List ByteArray, z = zs19.take ((((zs4.length : Nat) : Int) - 1).toNat) := ⟨_, rfl⟩
            have hl55 : ss53.length = (((zs4.length : Nat) : Int) - 1).toNat := by rw [hz54, List.length_take]; omega
            have hB56_t : Tells (row 9 1 (.slice A917 zs19.length c918) zs19.length (strV zs19)) (A917) (strV ss53) := by rw [hz54]; exact tells_take_strs (tells_row _ _ _ _ _ _) _
            refine RunU.sil hU false 10 (bm 18 2047) 86 (.slice A92 zs4.length c93) (True) (by kernel_rfl) trivial (by kernel_rfl) (by kernel_rfl) (fun _ _ _ h => h) ?_
            refine RunU.sil hU false 11 (bm 18 4095) 87 (.slice A92 zs4.length c93) (True) (by kernel_rfl) trivial (by kernel_rfl) (by kernel_rfl) (fun _ _ _ h => h) ?_
            refine RunU.sil hU false 12 (bm 18 8191) 88 (.int .i64 ((zs4.length : Nat) : Int)) (True) (by kernel_rfl) trivial (by kernel_rfl) (by kernel_rfl) (fun _ _ _ h => h) ?_
            refine RunU.sil hU true 13 (bm 18 16383) 89 (.int .i64 (((zs4.length : Nat) : Int) - 1)) (-9223372036854775808 ≤ (((zs4.length : Nat) : Int) - 1) ∧ (((zs4.length : Nat) : Int) - 1) < 9223372036854775808) (by kernel_rfl) (by omega) (by kernel_rfl) (by kernel_rfl) (fun _ _ _ h => h) ?_
            refine RunU.sil hU false 14 (bm 18 32767) 90 (.slice A92 ((((zs4.length : Nat) : Int) - 1).toNat) c93) (0 ≤ (((zs4.length : Nat) : Int) - 1) ∧ (((zs4.length : Nat) : Int) - 1) ≤ ((c93 : Nat) : Int)) (by kernel_rfl) (by omega) (by kernel_rfl) (by kernel_rfl) (fun _ _ _ h => h) ?_
            obtain ⟨ss57, hz58⟩ : ∃ z : List ByteArray, z = zs4.take ((((zs4.length : Nat) : Int) - 1).toNat) := ⟨_, rfl⟩
            have hl59 : ss57.length = (((zs4.length : Nat) : Int) - 1).toNat := by rw [hz58, List.length_take]; omega
            have hB60_t : Tells (row 9 1 (.slice A92 zs4.length c93) zs4.length (strV zs4)) (A92) (strV ss57) := by rw [hz58]; exact tells_take_strs (tells_row _ _ _ _ _ _) _
            refine RunU.one (dst := some 91) (op := .call { callee := .value (.func 20), args := #[.tmp 85, .tmp 90], argTypes := #[33, 33] }) 15 (bm 18 65535) [] (by kernel_rfl) (by kernel_rfl) (Step.call 20 [.slice A917 ((((zs4.length : Nat) : Int) - 1).toNat) c918, .slice A92 ((((zs4.length : Nat) : Int) - 1).toNat) c93] (by kernel_rfl) (by kernel_rfl) [] [vw A917 (strV ss53), vw A92 (strV ss57)] [row 9 1 (.slice A926 zs28.length c927) zs28.length (strV zs28), row 9 1 (.slice A917 zs19.length c918) zs19.length (strV zs19), row 9 1 (.slice Aq12 ((([] : List ByteArray) ++ zs4).length) cq13) ((([] : List ByteArray) ++ zs4).length) (strV (([] : List ByteArray) ++ zs4)), row 9 1 (.slice A92 zs4.length c93) zs4.length (strV zs4)] (pr_Same_spec A917 c918 ss53 A92 c93 ss57 ((((zs4.length : Nat) : Int) - 1).toNat) ((((zs4.length : Nat) : Int) - 1).toNat) (by first | assumption | omega | (simp only [List.length_append, List.length_cons, List.length_nil, List.length_set, List.length_replicate, List.length_take, List.length_drop]; omega) | (simp only [fits] at *; omega) | (simp only [List.length_append, List.length_cons, List.length_nil, List.length_set, List.length_replicate, List.length_take, List.length_drop] at *; omega) | (simp; done) | decide) (by simp only [hz54, hz58]; first | exact SzOK.take (PartsR.may (by assumption)).sz _ | exact SzOK.take (white_may (by assumption) (PartsR.may (by assumption))).sz _) (by first | assumption | omega | (simp only [List.length_append, List.length_cons, List.length_nil, List.length_set, List.length_replicate, List.length_take, List.length_drop]; omega) | (simp only [fits] at *; omega) | (simp only [List.length_append, List.length_cons, List.length_nil, List.length_set, List.length_replicate, List.length_take, List.length_drop] at *; omega) | (simp; done) | decide) (by first | assumption | omega | (simp only [List.length_append, List.length_cons, List.length_nil, List.length_set, List.length_replicate, List.length_take, List.length_drop]; omega) | (simp only [fits] at *; omega) | (simp only [List.length_append, List.length_cons, List.length_nil, List.length_set, List.length_replicate, List.length_take, List.length_drop] at *; omega) | (simp; done) | decide) (by simp only [hz54, hz58]; first | exact SzOK.take (PartsR.may (by assumption)).sz _ | exact SzOK.take (white_may (by assumption) (PartsR.may (by assumption))).sz _) (by first | assumption | omega | (simp only [List.length_append, List.length_cons, List.length_nil, List.length_set, List.length_replicate, List.length_take, List.length_drop]; omega) | (simp only [fits] at *; omega) | (simp only [List.length_append, List.length_cons, List.length_nil, List.length_set, List.length_replicate, List.length_take, List.length_drop] at *; omega) | (simp; done) | decide) (by first | rfl | assumption | omega | (simp only [List.length_append, List.length_cons, List.length_nil, List.length_set, List.length_replicate, List.length_take, List.length_drop]; omega) | (simp; done)) (by first | rfl | assumption | omega | (simp only [List.length_append, List.length_cons, List.length_nil, List.length_set, List.length_replicate, List.length_take, List.length_drop]; omega) | (simp; done))) [] (by kernel_rfl) (((Lend.nil _).tells 3 (row 9 1 (.slice A92 zs4.length c93) zs4.length (strV zs4)) A92 (strV ss57) (by kernel_rfl) (hB60_t)).tells 1 (row 9 1 (.slice A917 zs19.length c918) zs19.length (strV zs19)) A917 (strV ss53) (by kernel_rfl) (hB56_t)) ?_)
            rintro _ _ ⟨rfl, rfl⟩
            refine ⟨.inl (by kernel_rfl), ?_⟩
            refine RunU.sil hU false 16 (bm 18 131071) 92 (.bool (decide (ss53 = ss57))) (True) (by kernel_rfl) trivial (by kernel_rfl) (by kernel_rfl) (fun _ _ _ h => h) ?_
            refine RunU.sil hU false 17 (bm 18 262143) 2 (.bool (decide (ss53 = ss57))) (True) (by kernel_rfl) trivial (by kernel_rfl) (by kernel_rfl) (fun _ _ _ h => h) ?_
            refine RunU.env [2, 3, 6, 12, 73, 76, 77, 78, 79, 80, 81, 82, 83, 84, 85, 86, 87, 88, 89, 90, 91, 92] [(2, .bool (decide (ss53 = ss57))), (3, .slice A92 zs4.length c93), (6, .slice A917 zs19.length c918), (12, .int .i64 ((zs4.length : Nat) : Int)), (73, .bool (decide (k20 = 2))), (76, .slice A917 zs19.length c918), (77, .int .i64 ((zs19.length : Nat) : Int)), (78, .int .i64 ((zs4.length : Nat) : Int)), (79, .bool true), (80, .bool true), (81, .slice A917 zs19.length c918), (82, .slice A92 zs4.length c93), (83, .int .i64 ((zs4.length : Nat) : Int)), (84, .int .i64 (((zs4.length : Nat) : Int) - 1)), (85, .slice A917 ((((zs4.length : Nat) : Int) - 1).toNat) c918), (86, .slice A92 zs4.length c93), (87, .slice A92 zs4.length c93), (88, .int .i64 ((zs4.length : Nat) : Int)), (89, .int .i64 (((zs4.length : Nat) : Int) - 1)), (90, .slice A92 ((((zs4.length : Nat) : Int) - 1).toNat) c93), (91, .bool (decide (ss53 = ss57))), (92, .bool (decide (ss53 = ss57)))] (by kernel_rfl) ?_
            have hk61 : (ss53 = ss57) := by simp only [hz54, hz58]; exact take_eq (white_some hp22 (by assumption) (by assumption)).2 (by omega)
            refine RunU.enveq [(2, .bool true), (3, .slice A92 zs4.length c93), (6, .slice A917 zs19.length c918), (12, .int .i64 ((zs4.length : Nat) : Int)), (73, .bool (decide (k20 = 2))), (76, .slice A917 zs19.length c918), (77, .int .i64 ((zs19.length : Nat) : Int)), (78, .int .i64 ((zs4.length : Nat) : Int)), (79, .bool true), (80, .bool true), (81, .slice A917 zs19.length c918), (82, .slice A92 zs4.length c93), (83, .int .i64 ((zs4.length : Nat) : Int)), (84, .int .i64 (((zs4.length : Nat) : Int) - 1)), (85, .slice A917 ((((zs4.length : Nat) : Int) - 1).toNat) c918), (86, .slice A92 zs4.length c93), (87, .slice A92 zs4.length c93), (88, .int .i64 ((zs4.length : Nat) : Int)), (89, .int .i64 (((zs4.length : Nat) : Int) - 1)), (90, .slice A92 ((((zs4.length : Nat) : Int) - 1).toNat) c93), (91, .bool true), (92, .bool true)] (by rw [decide_eq_true hk61]; try rfl) ?_
            refine RunU.env [2] [(2, .bool true)] (by kernel_rfl) ?_
            refine RunU.done (by kernel_rfl) ?_
            refine kseq_n ?_
            refine RunC.ret ?_
            refine kret_r [.bool true] [] [] ⟨rfl, trivial⟩ (by kernel_rfl) rfl ⟨(by first | rfl | (first | rfl | (exact congrArg Value.bool (decide_eq_true (white_none hp22 (by first | exact .inl (by assumption) | exact .inr (by assumption))))))), (by first | rfl | (first | rfl | (exact congrArg Value.bool (decide_eq_true (white_none hp22 (by first | exact .inl (by assumption) | exact .inr (by assumption)))))))⟩
      · skip
        refine RunR.enveq [(2, .bool false), (3, .slice A92 zs4.length c93), (6, .slice A917 zs19.length c918), (7, .int .i64 k20), (62, .bool true)] (by rw [decide_eq_false h39]; try rfl) ?_
        refine RunR.sil hU [] 4 7 [2, 3, 6, 7, 66] [(2, .bool false), (3, .slice A92 zs4.length c93), (6, .slice A917 zs19.length c918), (7, .int .i64 k20), (66, .bool true)] ((True) ∧ True) rfl (by kernel_rfl) ⟨trivial, trivial⟩ ?_
        refine RunR.done (by kernel_rfl) ?_
        refine kseq_n ?_
        refine RunC.cond (b := true) (by kernel_rfl) (fun _ => ?_) (fun h => by cases h)
        refine RunC.seq ?_
        refine RunC.region ?_
        refine RunR.sil hU [] 4 4 [2, 3, 6, 7] [(2, .bool (decide (((zs19.length : Nat) : Int) = 0))), (3, .slice A92 zs4.length c93), (6, .slice A917 zs19.length c918), (7, .int .i64 k20)] ((True) ∧ (True) ∧ (True) ∧ (True) ∧ True) rfl (by kernel_rfl) ⟨trivial, trivial, trivial, trivial, trivial⟩ ?_
        refine RunR.done (by kernel_rfl) ?_
        refine kseq_n ?_
        refine RunC.ret ?_
        refine kseq_r ?_
        refine kret_r [.bool (decide (((zs19.length : Nat) : Int) = 0))] [] [] ⟨rfl, trivial⟩ (by kernel_rfl) rfl ⟨(by first | rfl | (first | rfl | (exact congrArg Value.bool (decide_eq_true (white_none hp22 (by first | exact .inl (by assumption) | exact .inr (by assumption))))))), (by first | rfl | (first | rfl | (exact congrArg Value.bool (decide_eq_true (white_none hp22 (by first | exact .inl (by assumption) | exact .inr (by assumption)))))))⟩
end Go.Proofs.YtjhinpmnpdgadaaDoor.LPathWhite
