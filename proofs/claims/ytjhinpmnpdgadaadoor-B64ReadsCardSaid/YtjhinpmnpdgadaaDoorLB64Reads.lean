/- The law B64Reads returns true whatever it is handed: its walk, on the contracts of what it calls. -/
import Derived.Test.YtjhinpmnpdgadaaDoorBTPure
import Derived.Test.YtjhinpmnpdgadaaDoorProg
import Derived.Test.YtjhinpmnpdgadaaDoorX1
import Derived.Test.YtjhinpmnpdgadaaDoorX2
import Derived.Test.YtjhinpmnpdgadaaDoorX3
import Derived.Test.YtjhinpmnpdgadaaDoorX4
import Derived.Test.YtjhinpmnpdgadaaDoorX5
import Derived.Test.YtjhinpmnpdgadaaDoorX6
import Derived.Test.YtjhinpmnpdgadaaDoorX7
import Derived.Test.YtjhinpmnpdgadaaDoorX8
import Derived.Test.YtjhinpmnpdgadaaDoorX9
namespace Go.Proofs.YtjhinpmnpdgadaaDoor.LB64Reads
open Go Go.Proofs.YtjhinpmnpdgadaaDoor.SL Go.Proofs.YtjhinpmnpdgadaaDoor.SL.W Go.Proofs.YtjhinpmnpdgadaaDoor.SL.Y Go.Proofs.YtjhinpmnpdgadaaDoor.SL.B Go.Proofs.YtjhinpmnpdgadaaDoor.X1 Go.Proofs.YtjhinpmnpdgadaaDoor.X2 Go.Proofs.YtjhinpmnpdgadaaDoor.X3 Go.Proofs.YtjhinpmnpdgadaaDoor.X4 Go.Proofs.YtjhinpmnpdgadaaDoor.X5 Go.Proofs.YtjhinpmnpdgadaaDoor.X6 Go.Proofs.YtjhinpmnpdgadaaDoor.X7 Go.Proofs.YtjhinpmnpdgadaaDoor.X8 Go.Proofs.YtjhinpmnpdgadaaDoor.X9
set_option linter.unusedVariables false
set_option linter.unusedSimpArgs false
set_option maxRecDepth 100000
set_option maxHeartbeats 40000000
def U : Tab where
  und := [(3, .int .i64), (4, .bool), (9, .string)]
  fld := []
  sz := [(3, 1), (4, 1), (9, 1)]
  ti := [(3, (1, 8, .int .i64 0)), (4, (1, 1, .bool false)), (9, (1, 16, .string ⟨#[]⟩))]
  bld := []

theorem hU : U.OK Tryd.prog where
  und := by
    intro p hp
    simp only [U, List.mem_cons, List.not_mem_nil, or_false] at hp
    rcases hp with rfl | rfl | rfl
    · exact Tryd.underlying3
    · exact Tryd.underlying4
    · exact Tryd.underlying9
  fld := by
    intro p hp; cases hp
  sz := by
    intro p hp
    simp only [U, List.mem_cons, List.not_mem_nil, or_false] at hp
    rcases hp with rfl | rfl | rfl
    · exact ⟨Tryd.prog.types[3]!, by kernel_rfl, by kernel_rfl⟩
    · exact ⟨Tryd.prog.types[4]!, by kernel_rfl, by kernel_rfl⟩
    · exact ⟨Tryd.prog.types[9]!, by kernel_rfl, by kernel_rfl⟩
  ti := by
    intro p hp
    simp only [U, List.mem_cons, List.not_mem_nil, or_false] at hp
    rcases hp with rfl | rfl | rfl
    · exact ⟨Tryd.prog.types[3]!, by kernel_rfl, by kernel_rfl, by kernel_rfl, by kernel_rfl⟩
    · exact ⟨Tryd.prog.types[4]!, by kernel_rfl, by kernel_rfl, by kernel_rfl, by kernel_rfl⟩
    · exact ⟨Tryd.prog.types[9]!, by kernel_rfl, by kernel_rfl, by kernel_rfl, by kernel_rfl⟩
  bld := by
    intro p hp; cases hp
  mixed := by kernel_rfl

theorem l14_B64Reads_spec (s : ByteArray) (hs : (s : ByteArray).size ≤ 140737488355328) :
    CallsS Tryd.prog 4 [.string s] [] (fun r D => r = .bool true ∧ D = []) := by
  refine CallsS.enter hU Tryd.f4 _ [.tmp 2] 40 Tryd.func4 rfl (by decide) rfl rfl (by kernel_rfl) fun w0 W => ?_
  refine RunC.seq ?_
  refine RunC.region ?_
  refine RunR.sil hU [] 1 1 [0, 2] [(0, .string s), (2, .bool false)] ((True) ∧ True) rfl (by kernel_rfl) ⟨trivial, trivial⟩ ?_
  refine RunR.done (by kernel_rfl) ?_
  refine kseq_n ?_
  refine RunC.seq ?_
  refine RunC.seq ?_
  refine RunC.region ?_
  refine RunR.step (dst := some 7) (op := .call { callee := .value (.func 11), args := #[], argTypes := #[] }) (by kernel_rfl) (Step.call 11 [] (by kernel_rfl) (by kernel_rfl) [] [] [] (l14_awake_spec) [] (by kernel_rfl) (Lend.nil _) ?_)
  rintro _ _ ⟨rfl, rfl⟩
  refine RunR.sil hU [] 1 2 [0, 2, 8] [(0, .string s), (2, .bool false), (8, .bool false)] ((True) ∧ True) rfl (by kernel_rfl) ⟨trivial, trivial⟩ ?_
  refine RunR.done (by kernel_rfl) ?_
  refine kseq_n ?_
  refine RunC.cond (b := false) (by kernel_rfl) (fun h => by cases h) (fun _ => ?_)
  refine RunC.skip ?_
  refine kseq_n ?_
  refine RunC.seq ?_
  refine RunC.seq ?_
  refine RunC.region ?_
  refine RunR.sil hU [] 3 3 [0, 2, 11] [(0, .string s), (2, .bool false), (11, .bool (decide (((s : ByteArray).size : Int) > 4096)))] ((True) ∧ (True) ∧ (True) ∧ True) rfl (by kernel_rfl) ⟨trivial, trivial, trivial, trivial⟩ ?_
  refine RunR.done (by kernel_rfl) ?_
  refine kseq_n ?_
  refine RunC.condp (((s : ByteArray).size : Int) > 4096) (by kernel_rfl) (fun h1 => ?_) (fun h1 => ?_)
  · skip
    refine RunC.seq ?_
    refine RunC.region ?_
    refine RunR.sil hU [] 1 1 [0, 2] [(0, .string s), (2, .bool true)] ((True) ∧ True) rfl (by kernel_rfl) ⟨trivial, trivial⟩ ?_
    refine RunR.done (by kernel_rfl) ?_
    refine kseq_n ?_
    refine RunC.ret ?_
    refine kseq_r ?_
    refine kret_r [.bool true] [] [] ⟨rfl, trivial⟩ (by kernel_rfl) rfl ⟨rfl, rfl⟩
  · skip
    refine RunC.skip ?_
    refine kseq_n ?_
    refine RunC.seq ?_
    refine RunC.region ?_
    refine RunR.sil hU [] 1 1 [0, 2, 13] [(0, .string s), (2, .bool false), (13, .string s)] ((True) ∧ True) rfl (by kernel_rfl) ⟨trivial, trivial⟩ ?_
    refine RunR.step (dst := some 14) (op := .call { callee := .value (.func 13), args := #[.tmp 13], argTypes := #[9] }) (by kernel_rfl) (Step.call 13 [.string s] (by kernel_rfl) (by kernel_rfl) [] [] [] (b_Bytes_spec s (by first | assumption | omega | (simp only [List.length_append, List.length_cons, List.length_nil, List.length_set, List.length_replicate, List.length_take, List.length_drop]; omega) | (simp only [fits] at *; omega) | (simp only [List.length_append, List.length_cons, List.length_nil, List.length_set, List.length_replicate, List.length_take, List.length_drop] at *; omega) | (simp; done) | decide)) [] (by kernel_rfl) (Lend.nil _) ?_)
    rintro _ _ ⟨A92, c93, zs4, ok5, rfl, rfl, hp6, hp7, hp8, hp9, hp10, hp11⟩
    refine RunR.sil hU [] 5 7 [0, 2, 3, 4] [(0, .string s), (2, .bool false), (3, .slice A92 zs4.length c93), (4, .bool ok5)] ((True) ∧ (True) ∧ (True) ∧ (True) ∧ (True) ∧ True) rfl (by kernel_rfl) ⟨trivial, trivial, trivial, trivial, trivial, trivial⟩ ?_
    refine RunR.done (by kernel_rfl) ?_
    refine kseq_n ?_
    refine RunC.seq ?_
    refine RunC.region ?_
    refine RunR.sil hU [] 1 1 [0, 2, 3, 4, 18] [(0, .string s), (2, .bool false), (3, .slice A92 zs4.length c93), (4, .bool ok5), (18, .string s)] ((True) ∧ True) rfl (by kernel_rfl) ⟨trivial, trivial⟩ ?_
    refine RunR.step (dst := some 19) (op := .call { callee := .value (.func 16), args := #[.tmp 18], argTypes := #[9] }) (by kernel_rfl) (Step.call 16 [.string s] (by kernel_rfl) (by kernel_rfl) [] [] [row 5 1 (.slice A92 zs4.length c93) zs4.length (nums .u8 zs4)] (br_Bytes_spec s (by first | assumption | omega | (simp only [List.length_append, List.length_cons, List.length_nil, List.length_set, List.length_replicate, List.length_take, List.length_drop]; omega) | (simp only [fits] at *; omega) | (simp only [List.length_append, List.length_cons, List.length_nil, List.length_set, List.length_replicate, List.length_take, List.length_drop] at *; omega) | (simp; done) | decide)) [] (by kernel_rfl) (Lend.nil _) ?_)
    rintro _ _ ⟨A912, c913, zs14, ok15, rfl, rfl, hp16, hp17, hp18, hp19, hp20, hp21⟩
    refine RunR.sil hU [] 5 7 [0, 2, 3, 4, 5, 6] [(0, .string s), (2, .bool false), (3, .slice A92 zs4.length c93), (4, .bool ok5), (5, .slice A912 zs14.length c913), (6, .bool ok15)] ((True) ∧ (True) ∧ (True) ∧ (True) ∧ (True) ∧ True) rfl (by kernel_rfl) ⟨trivial, trivial, trivial, trivial, trivial, trivial⟩ ?_
    refine RunR.done (by kernel_rfl) ?_
    refine kseq_n ?_
    refine RunC.seq ?_
    refine RunC.region ?_
    refine RunR.sil hU [] 4 4 [0, 2, 3, 4, 5, 25] [(0, .string s), (2, .bool false), (3, .slice A92 zs4.length c93), (4, .bool ok5), (5, .slice A912 zs14.length c913), (25, .bool (ok5 == ok15))] ((True) ∧ (True) ∧ (True) ∧ (True) ∧ True) rfl (by kernel_rfl) ⟨trivial, trivial, trivial, trivial, trivial⟩ ?_
    refine RunR.env [0, 2, 3, 4, 5, 25] [(0, .string s), (2, .bool false), (3, .slice A92 zs4.length c93), (4, .bool ok5), (5, .slice A912 zs14.length c913), (25, .bool (ok5 == ok15))] (by kernel_rfl) ?_
    have hk22 : (ok5 == ok15) = true := by exact beq_iff_eq.2 (reads_same (by assumption) (by assumption) (by assumption) (by assumption)).1
    refine RunR.enveq [(0, .string s), (2, .bool false), (3, .slice A92 zs4.length c93), (4, .bool ok5), (5, .slice A912 zs14.length c913), (25, .bool true)] (by rw [hk22]; try rfl) ?_
    refine RunR.sil hU [] 2 6 [0, 2, 3, 4, 25, 26, 27] [(0, .string s), (2, .bool false), (3, .slice A92 zs4.length c93), (4, .bool ok5), (25, .bool true), (26, .slice A92 zs4.length c93), (27, .slice A912 zs14.length c913)] ((True) ∧ (True) ∧ True) rfl (by kernel_rfl) ⟨trivial, trivial, trivial⟩ ?_
    refine RunR.step (dst := some 28) (op := .call { callee := .value (.func 15), args := #[.tmp 26, .tmp 27], argTypes := #[22, 22] }) (by kernel_rfl) (Step.call 15 [.slice A92 zs4.length c93, .slice A912 zs14.length c913] (by kernel_rfl) (by kernel_rfl) [] [vw A92 (nums .u8 zs4), vw A912 (nums .u8 zs14)] [row 5 1 (.slice A912 zs14.length c913) zs14.length (nums .u8 zs14), row 5 1 (.slice A92 zs4.length c93) zs4.length (nums .u8 zs4)] (r_Equal_spec A92 c93 zs4 A912 c913 zs14 zs4.length zs14.length hp8 (by first | assumption | omega | (simp only [List.length_append, List.length_cons, List.length_nil, List.length_set, List.length_replicate, List.length_take, List.length_drop]; omega) | (simp only [fits] at *; omega) | (simp only [List.length_append, List.length_cons, List.length_nil, List.length_set, List.length_replicate, List.length_take, List.length_drop] at *; omega) | (simp; done) | decide) hp18 (by first | assumption | omega | (simp only [List.length_append, List.length_cons, List.length_nil, List.length_set, List.length_replicate, List.length_take, List.length_drop]; omega) | (simp only [fits] at *; omega) | (simp only [List.length_append, List.length_cons, List.length_nil, List.length_set, List.length_replicate, List.length_take, List.length_drop] at *; omega) | (simp; done) | decide) (by first | rfl | assumption | omega | (simp only [List.length_append, List.length_cons, List.length_nil, List.length_set, List.length_replicate, List.length_take, List.length_drop]; omega) | (simp; done)) (by first | rfl | assumption | omega | (simp only [List.length_append, List.length_cons, List.length_nil, List.length_set, List.length_replicate, List.length_take, List.length_drop]; omega) | (simp; done))) [] (by kernel_rfl) (((Lend.nil _).tells 0 (row 5 1 (.slice A912 zs14.length c913) zs14.length (nums .u8 zs14)) A912 (nums .u8 zs14) (by kernel_rfl) (tells_row _ _ _ _ _ _)).tells 1 (row 5 1 (.slice A92 zs4.length c93) zs4.length (nums .u8 zs4)) A92 (nums .u8 zs4) (by kernel_rfl) (tells_row _ _ _ _ _ _)) ?_)
    rintro _ _ ⟨rfl, rfl⟩
    refine RunR.sil hU [] 2 9 [0, 2, 3, 4, 30] [(0, .string s), (2, .bool false), (3, .slice A92 zs4.length c93), (4, .bool ok5), (30, .bool (decide (zs4 = zs14)))] ((True) ∧ (True) ∧ True) rfl (by kernel_rfl) ⟨trivial, trivial, trivial⟩ ?_
    refine RunR.env [0, 2, 3, 4, 30] [(0, .string s), (2, .bool false), (3, .slice A92 zs4.length c93), (4, .bool ok5), (30, .bool (decide (zs4 = zs14)))] (by kernel_rfl) ?_
    have hk23 : (zs4 = zs14) := by exact (reads_same (by assumption) (by assumption) (by assumption) (by assumption)).2
    refine RunR.enveq [(0, .string s), (2, .bool false), (3, .slice A92 zs4.length c93), (4, .bool ok5), (30, .bool true)] (by rw [decide_eq_true hk23]; try rfl) ?_
    refine RunR.sil hU [] 3 12 [0, 2, 3, 30, 33] [(0, .string s), (2, .bool false), (3, .slice A92 zs4.length c93), (30, .bool true), (33, .bool (!ok5))] ((True) ∧ (True) ∧ (True) ∧ True) rfl (by kernel_rfl) ⟨trivial, trivial, trivial, trivial⟩ ?_
    refine RunR.env [0, 2, 3, 30, 33] [(0, .string s), (2, .bool false), (3, .slice A92 zs4.length c93), (30, .bool true), (33, .bool (!ok5))] (by kernel_rfl) ?_
    by_cases h24 : ok5 = true
    · skip
      refine RunR.enveq [(0, .string s), (2, .bool false), (3, .slice A92 zs4.length c93), (30, .bool true), (33, .bool false)] (by rw [h24]; try rfl) ?_
      refine RunR.sil hU [] 1 13 [0, 2, 30, 33, 34] [(0, .string s), (2, .bool false), (30, .bool true), (33, .bool false), (34, .slice A92 zs4.length c93)] ((True) ∧ True) rfl (by kernel_rfl) ⟨trivial, trivial⟩ ?_
      refine RunR.step (dst := some 35) (op := .call { callee := .value (.func 12), args := #[.tmp 34], argTypes := #[22] }) (by kernel_rfl) (Step.call 12 [.slice A92 zs4.length c93] (by kernel_rfl) (by kernel_rfl) [] [vw A92 (nums .u8 zs4)] [row 5 1 (.slice A912 zs14.length c913) zs14.length (nums .u8 zs14), row 5 1 (.slice A92 zs4.length c93) zs4.length (nums .u8 zs4)] (b_Text_spec A92 c93 zs4 zs4.length hp8 (by first | assumption | omega | (simp only [List.length_append, List.length_cons, List.length_nil, List.length_set, List.length_replicate, List.length_take, List.length_drop]; omega) | (simp only [fits] at *; omega) | (simp only [List.length_append, List.length_cons, List.length_nil, List.length_set, List.length_replicate, List.length_take, List.length_drop] at *; omega) | (simp; done) | decide) (by first | assumption | omega | (simp only [List.length_append, List.length_cons, List.length_nil, List.length_set, List.length_replicate, List.length_take, List.length_drop]; omega) | (simp only [fits] at *; omega) | (simp only [List.length_append, List.length_cons, List.length_nil, List.length_set, List.length_replicate, List.length_take, List.length_drop] at *; omega) | (simp; done) | decide) (by first | rfl | assumption | omega | (simp only [List.length_append, List.length_cons, List.length_nil, List.length_set, List.length_replicate, List.length_take, List.length_drop]; omega) | (simp; done))) [] (by kernel_rfl) ((Lend.nil _).tells 1 (row 5 1 (.slice A92 zs4.length c93) zs4.length (nums .u8 zs4)) A92 (nums .u8 zs4) (by kernel_rfl) (tells_row _ _ _ _ _ _)) ?_)
      rintro _ _ ⟨rfl, rfl⟩
      refine RunR.sil hU [] 5 19 [2] [(2, .bool (decide ((strOfNums (enc zs4)) = s)))] ((True) ∧ (True) ∧ (True) ∧ (True) ∧ (True) ∧ True) rfl (by kernel_rfl) ⟨trivial, trivial, trivial, trivial, trivial, trivial⟩ ?_
      refine RunR.env [2] [(2, .bool (decide ((strOfNums (enc zs4)) = s)))] (by kernel_rfl) ?_
      have hk25 : ((strOfNums (enc zs4)) = s) := by exact reads_back (by assumption) (by assumption)
      refine RunR.enveq [(2, .bool true)] (by rw [decide_eq_true hk25]; try rfl) ?_
      refine RunR.done (by kernel_rfl) ?_
      refine kseq_n ?_
      refine RunC.ret ?_
      refine kret_r [.bool true] [] [] ⟨rfl, trivial⟩ (by kernel_rfl) rfl ⟨rfl, rfl⟩
    · skip
      have h24 := Bool.eq_false_iff.2 h24
      refine RunR.enveq [(0, .string s), (2, .bool false), (3, .slice A92 zs4.length c93), (30, .bool true), (33, .bool true)] (by rw [h24]; try rfl) ?_
      refine RunR.sil hU [] 7 19 [2] [(2, .bool true)] ((True) ∧ (True) ∧ (True) ∧ True) rfl (by kernel_rfl) ⟨trivial, trivial, trivial, trivial⟩ ?_
      refine RunR.done (by kernel_rfl) ?_
      refine kseq_n ?_
      refine RunC.ret ?_
      refine kret_r [.bool true] [] [] ⟨rfl, trivial⟩ (by kernel_rfl) rfl ⟨rfl, rfl⟩
end Go.Proofs.YtjhinpmnpdgadaaDoor.LB64Reads
