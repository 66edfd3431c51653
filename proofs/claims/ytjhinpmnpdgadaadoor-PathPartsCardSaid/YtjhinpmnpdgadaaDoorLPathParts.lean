/- The law PathParts returns true whatever it is handed: its walk, on the contracts of what it calls. -/
import Derived.Test.YtjhinpmnpdgadaaDoorZPure
import Derived.Test.YtjhinpmnpdgadaaDoorProg
import Derived.Test.YtjhinpmnpdgadaaDoorX1
import Derived.Test.YtjhinpmnpdgadaaDoorX2
import Derived.Test.YtjhinpmnpdgadaaDoorX3
import Derived.Test.YtjhinpmnpdgadaaDoorX4
import Derived.Test.YtjhinpmnpdgadaaDoorX5
import Derived.Test.YtjhinpmnpdgadaaDoorX6
import Derived.Test.YtjhinpmnpdgadaaDoorX7
import Derived.Test.YtjhinpmnpdgadaaDoorX8
import Derived.Test.YtjhinpmnpdgadaaDoorX9
namespace Go.Proofs.YtjhinpmnpdgadaaDoor.LPathParts
open Go Go.Proofs.YtjhinpmnpdgadaaDoor.SL Go.Proofs.YtjhinpmnpdgadaaDoor.SL.W Go.Proofs.YtjhinpmnpdgadaaDoor.SL.Z Go.Proofs.YtjhinpmnpdgadaaDoor.X1 Go.Proofs.YtjhinpmnpdgadaaDoor.X2 Go.Proofs.YtjhinpmnpdgadaaDoor.X3 Go.Proofs.YtjhinpmnpdgadaaDoor.X4 Go.Proofs.YtjhinpmnpdgadaaDoor.X5 Go.Proofs.YtjhinpmnpdgadaaDoor.X6 Go.Proofs.YtjhinpmnpdgadaaDoor.X7 Go.Proofs.YtjhinpmnpdgadaaDoor.X8 Go.Proofs.YtjhinpmnpdgadaaDoor.X9
set_option linter.unusedVariables false
set_option linter.unusedSimpArgs false
set_option maxRecDepth 100000
set_option maxHeartbeats 40000000
def U : Tab where
  und := [(3, .int .i64), (9, .string), (34, .int .i64)]
  fld := []
  sz := [(3, 1), (9, 1), (34, 1)]
  ti := [(3, (1, 8, .int .i64 0)), (9, (1, 16, .string ⟨#[]⟩)), (34, (1, 8, .int .i64 0))]
  bld := []

theorem hU : U.OK Tryd.prog where
  und := by
    intro p hp
    simp only [U, List.mem_cons, List.not_mem_nil, or_false] at hp
    rcases hp with rfl | rfl | rfl
    · exact Tryd.underlying3
    · exact Tryd.underlying9
    · exact Tryd.underlying34
  fld := by
    intro p hp; cases hp
  sz := by
    intro p hp
    simp only [U, List.mem_cons, List.not_mem_nil, or_false] at hp
    rcases hp with rfl | rfl | rfl
    · exact ⟨Tryd.prog.types[3]!, by kernel_rfl, by kernel_rfl⟩
    · exact ⟨Tryd.prog.types[9]!, by kernel_rfl, by kernel_rfl⟩
    · exact ⟨Tryd.prog.types[34]!, by kernel_rfl, by kernel_rfl⟩
  ti := by
    intro p hp
    simp only [U, List.mem_cons, List.not_mem_nil, or_false] at hp
    rcases hp with rfl | rfl | rfl
    · exact ⟨Tryd.prog.types[3]!, by kernel_rfl, by kernel_rfl, by kernel_rfl, by kernel_rfl⟩
    · exact ⟨Tryd.prog.types[9]!, by kernel_rfl, by kernel_rfl, by kernel_rfl, by kernel_rfl⟩
    · exact ⟨Tryd.prog.types[34]!, by kernel_rfl, by kernel_rfl, by kernel_rfl, by kernel_rfl⟩
  bld := by
    intro p hp; cases hp
  mixed := by kernel_rfl

theorem l20_Parts_spec (s : ByteArray) (hs : (s : ByteArray).size ≤ 140737488355328) :
    CallsS Tryd.prog 7 [.string s] [] (fun r D => r = .bool true ∧ D = []) := by
  refine CallsS.enter hU Tryd.f7 _ [.tmp 2] 53 Tryd.func7 rfl (by decide) rfl rfl (by kernel_rfl) fun w0 W => ?_
  refine RunC.seq ?_
  refine RunC.region ?_
  refine RunR.sil hU [] 1 1 [0, 2] [(0, .string s), (2, .bool false)] ((True) ∧ True) rfl (by kernel_rfl) ⟨trivial, trivial⟩ ?_
  refine RunR.done (by kernel_rfl) ?_
  refine kseq_n ?_
  refine RunC.seq ?_
  refine RunC.seq ?_
  refine RunC.region ?_
  refine RunR.step (dst := some 9) (op := .call { callee := .value (.func 17), args := #[], argTypes := #[] }) (by kernel_rfl) (Step.call 17 [] (by kernel_rfl) (by kernel_rfl) [] [] [] (l20_awake_spec) [] (by kernel_rfl) (Lend.nil _) ?_)
  rintro _ _ ⟨rfl, rfl⟩
  refine RunR.sil hU [] 1 2 [0, 2, 10] [(0, .string s), (2, .bool false), (10, .bool false)] ((True) ∧ True) rfl (by kernel_rfl) ⟨trivial, trivial⟩ ?_
  refine RunR.done (by kernel_rfl) ?_
  refine kseq_n ?_
  refine RunC.cond (b := false) (by kernel_rfl) (fun h => by cases h) (fun _ => ?_)
  refine RunC.skip ?_
  refine kseq_n ?_
  refine RunC.seq ?_
  refine RunC.seq ?_
  refine RunC.region ?_
  refine RunR.sil hU [] 3 3 [0, 2, 13] [(0, .string s), (2, .bool false), (13, .bool (decide (((s : ByteArray).size : Int) > 10000)))] ((True) ∧ (True) ∧ (True) ∧ True) rfl (by kernel_rfl) ⟨trivial, trivial, trivial, trivial⟩ ?_
  refine RunR.done (by kernel_rfl) ?_
  refine kseq_n ?_
  refine RunC.condp (((s : ByteArray).size : Int) > 10000) (by kernel_rfl) (fun h1 => ?_) (fun h1 => ?_)
  · skip
    refine RunC.seq ?_
    refine RunC.region ?_
    refine RunR.sil hU [] 1 1 [0, 2] [(0, .string s), (2, .bool true)] ((True) ∧ True) rfl (by kernel_rfl) ⟨trivial, trivial⟩ ?_
    refine RunR.done (by kernel_rfl) ?_
    refine kseq_n ?_
    refine RunC.ret ?_
    refine kseq_r ?_
    refine kret_r [.bool true] [] [] ⟨rfl, trivial⟩ (by kernel_rfl) rfl ⟨rfl, rfl⟩
  · skip
    refine RunC.skip ?_
    refine kseq_n ?_
    refine RunC.seq ?_
    refine RunC.region ?_
    refine RunR.sil hU [] 1 1 [0, 2, 15] [(0, .string s), (2, .bool false), (15, .string s)] ((True) ∧ True) rfl (by kernel_rfl) ⟨trivial, trivial⟩ ?_
    refine RunR.step (dst := some 16) (op := .call { callee := .value (.func 18), args := #[.tmp 15], argTypes := #[9] }) (by kernel_rfl) (Step.call 18 [.string s] (by kernel_rfl) (by kernel_rfl) [] [] [] (p_Parts_spec s (by first | assumption | omega | (simp only [List.length_append, List.length_cons, List.length_nil, List.length_set, List.length_replicate, List.length_take, List.length_drop]; omega) | (simp only [fits] at *; omega) | (simp only [List.length_append, List.length_cons, List.length_nil, List.length_set, List.length_replicate, List.length_take, List.length_drop] at *; omega) | (simp; done) | decide)) [] (by kernel_rfl) (Lend.nil _) ?_)
    rintro _ _ ⟨A92, c93, zs4, e5, rfl, rfl, hp6, hp7, hp8⟩
    refine RunR.sil hU [] 5 7 [0, 2, 3, 4] [(0, .string s), (2, .bool false), (3, .slice A92 zs4.length c93), (4, .int .i64 e5)] ((True) ∧ (True) ∧ (True) ∧ (True) ∧ (True) ∧ True) rfl (by kernel_rfl) ⟨trivial, trivial, trivial, trivial, trivial, trivial⟩ ?_
    refine RunR.done (by kernel_rfl) ?_
    refine kseq_n ?_
    refine RunC.seq ?_
    refine RunC.region ?_
    refine RunR.sil hU [] 1 1 [2, 3, 4, 20] [(2, .bool false), (3, .slice A92 zs4.length c93), (4, .int .i64 e5), (20, .string s)] ((True) ∧ True) rfl (by kernel_rfl) ⟨trivial, trivial⟩ ?_
    refine RunR.step (dst := some 21) (op := .call { callee := .value (.func 19), args := #[.tmp 20], argTypes := #[9] }) (by kernel_rfl) (Step.call 19 [.string s] (by kernel_rfl) (by kernel_rfl) [] [] [row 9 1 (.slice A92 zs4.length c93) zs4.length (strV zs4)] (pr_Parts_spec s (by first | assumption | omega | (simp only [List.length_append, List.length_cons, List.length_nil, List.length_set, List.length_replicate, List.length_take, List.length_drop]; omega) | (simp only [fits] at *; omega) | (simp only [List.length_append, List.length_cons, List.length_nil, List.length_set, List.length_replicate, List.length_take, List.length_drop] at *; omega) | (simp; done) | decide)) [] (by kernel_rfl) (Lend.nil _) ?_)
    rintro _ _ ⟨A99, c910, zs11, e12, rfl, rfl, hp13, hp14, hp15⟩
    refine RunR.sil hU [] 5 7 [2, 3, 4, 5, 6] [(2, .bool false), (3, .slice A92 zs4.length c93), (4, .int .i64 e5), (5, .slice A99 zs11.length c910), (6, .int .i64 e12)] ((True) ∧ (True) ∧ (True) ∧ (True) ∧ (True) ∧ True) rfl (by kernel_rfl) ⟨trivial, trivial, trivial, trivial, trivial, trivial⟩ ?_
    refine RunR.done (by kernel_rfl) ?_
    refine kseq_n ?_
    refine RunC.seq ?_
    refine RunC.seq ?_
    refine RunC.region ?_
    refine RunR.sil hU [] 4 4 [2, 3, 5, 27] [(2, .bool false), (3, .slice A92 zs4.length c93), (5, .slice A99 zs11.length c910), (27, .bool (!decide (e5 = e12)))] ((True) ∧ (True) ∧ (True) ∧ (True) ∧ True) rfl (by kernel_rfl) ⟨trivial, trivial, trivial, trivial, trivial⟩ ?_
    refine RunR.env [2, 3, 5, 27] [(2, .bool false), (3, .slice A92 zs4.length c93), (5, .slice A99 zs11.length c910), (27, .bool (!decide (e5 = e12)))] (by kernel_rfl) ?_
    have hk16 : (e5 = e12) := by exact (PartsR.same (by assumption) (by assumption)).1
    refine RunR.enveq [(2, .bool false), (3, .slice A92 zs4.length c93), (5, .slice A99 zs11.length c910), (27, .bool false)] (by rw [decide_eq_true hk16]; try rfl) ?_
    refine RunR.sil hU [] 2 6 [2, 3, 5, 27, 28, 29] [(2, .bool false), (3, .slice A92 zs4.length c93), (5, .slice A99 zs11.length c910), (27, .bool false), (28, .slice A92 zs4.length c93), (29, .slice A99 zs11.length c910)] ((True) ∧ (True) ∧ True) rfl (by kernel_rfl) ⟨trivial, trivial, trivial⟩ ?_
    refine RunR.step (dst := some 30) (op := .call { callee := .value (.func 20), args := #[.tmp 28, .tmp 29], argTypes := #[33, 33] }) (by kernel_rfl) (Step.call 20 [.slice A92 zs4.length c93, .slice A99 zs11.length c910] (by kernel_rfl) (by kernel_rfl) [] [vw A92 (strV zs4), vw A99 (strV zs11)] [row 9 1 (.slice A99 zs11.length c910) zs11.length (strV zs11), row 9 1 (.slice A92 zs4.length c93) zs4.length (strV zs4)] (pr_Same_spec A92 c93 zs4 A99 c910 zs11 zs4.length zs11.length (by exact Nat.le_trans (PartsR.len (by assumption)) (by decide)) (by exact (PartsR.may (by assumption)).sz) (by first | assumption | omega | (simp only [List.length_append, List.length_cons, List.length_nil, List.length_set, List.length_replicate, List.length_take, List.length_drop]; omega) | (simp only [fits] at *; omega) | (simp only [List.length_append, List.length_cons, List.length_nil, List.length_set, List.length_replicate, List.length_take, List.length_drop] at *; omega) | (simp; done) | decide) (by exact Nat.le_trans (PartsR.len (by assumption)) (by decide)) (by exact (PartsR.may (by assumption)).sz) (by first | assumption | omega | (simp only [List.length_append, List.length_cons, List.length_nil, List.length_set, List.length_replicate, List.length_take, List.length_drop]; omega) | (simp only [fits] at *; omega) | (simp only [List.length_append, List.length_cons, List.length_nil, List.length_set, List.length_replicate, List.length_take, List.length_drop] at *; omega) | (simp; done) | decide) (by first | rfl | assumption | omega | (simp only [List.length_append, List.length_cons, List.length_nil, List.length_set, List.length_replicate, List.length_take, List.length_drop]; omega) | (simp; done)) (by first | rfl | assumption | omega | (simp only [List.length_append, List.length_cons, List.length_nil, List.length_set, List.length_replicate, List.length_take, List.length_drop]; omega) | (simp; done))) [] (by kernel_rfl) (((Lend.nil _).tells 0 (row 9 1 (.slice A99 zs11.length c910) zs11.length (strV zs11)) A99 (strV zs11) (by kernel_rfl) (tells_row _ _ _ _ _ _)).tells 1 (row 9 1 (.slice A92 zs4.length c93) zs4.length (strV zs4)) A92 (strV zs4) (by kernel_rfl) (tells_row _ _ _ _ _ _)) ?_)
    rintro _ _ ⟨rfl, rfl⟩
    refine RunR.sil hU [] 2 9 [2, 3, 5, 32] [(2, .bool false), (3, .slice A92 zs4.length c93), (5, .slice A99 zs11.length c910), (32, .bool (!decide (zs4 = zs11)))] ((True) ∧ (True) ∧ True) rfl (by kernel_rfl) ⟨trivial, trivial, trivial⟩ ?_
    refine RunR.env [2, 3, 5, 32] [(2, .bool false), (3, .slice A92 zs4.length c93), (5, .slice A99 zs11.length c910), (32, .bool (!decide (zs4 = zs11)))] (by kernel_rfl) ?_
    have hk17 : (zs4 = zs11) := by first | exact (PartsR.same (by assumption) (by assumption)).2 | exact (PartsR.join (by assumption) (by assumption)).2
    refine RunR.enveq [(2, .bool false), (3, .slice A92 zs4.length c93), (5, .slice A99 zs11.length c910), (32, .bool false)] (by rw [decide_eq_true hk17]; try rfl) ?_
    refine RunR.done (by kernel_rfl) ?_
    refine kseq_n ?_
    refine RunC.cond (b := false) (by kernel_rfl) (fun h => by cases h) (fun _ => ?_)
    refine RunC.skip ?_
    refine kseq_n ?_
    refine RunC.seq ?_
    refine RunC.region ?_
    refine RunR.sil hU [] 1 1 [2, 3, 5, 34] [(2, .bool false), (3, .slice A92 zs4.length c93), (5, .slice A99 zs11.length c910), (34, .slice A92 zs4.length c93)] ((True) ∧ True) rfl (by kernel_rfl) ⟨trivial, trivial⟩ ?_
    refine RunR.step (dst := some 35) (op := .call { callee := .value (.func 21), args := #[.tmp 34], argTypes := #[33] }) (by kernel_rfl) (Step.call 21 [.slice A92 zs4.length c93] (by kernel_rfl) (by kernel_rfl) [] [vw A92 (strV zs4)] [row 9 1 (.slice A99 zs11.length c910) zs11.length (strV zs11), row 9 1 (.slice A92 zs4.length c93) zs4.length (strV zs4)] (p_Join_spec A92 c93 zs4 zs4.length (by exact PartsR.len (by assumption)) (by exact PartsR.may (by assumption)) (by first | assumption | omega | (simp only [List.length_append, List.length_cons, List.length_nil, List.length_set, List.length_replicate, List.length_take, List.length_drop]; omega) | (simp only [fits] at *; omega) | (simp only [List.length_append, List.length_cons, List.length_nil, List.length_set, List.length_replicate, List.length_take, List.length_drop] at *; omega) | (simp; done) | decide) (by first | rfl | assumption | omega | (simp only [List.length_append, List.length_cons, List.length_nil, List.length_set, List.length_replicate, List.length_take, List.length_drop]; omega) | (simp; done))) [] (by kernel_rfl) ((Lend.nil _).tells 1 (row 9 1 (.slice A92 zs4.length c93) zs4.length (strV zs4)) A92 (strV zs4) (by kernel_rfl) (tells_row _ _ _ _ _ _)) ?_)
    rintro _ _ ⟨rfl, rfl⟩
    refine RunR.step (dst := some 36) (op := .call { callee := .value (.func 18), args := #[.tmp 35], argTypes := #[9] }) (by kernel_rfl) (Step.call 18 [.string (joinS zs4)] (by kernel_rfl) (by kernel_rfl) [] [] [row 9 1 (.slice A99 zs11.length c910) zs11.length (strV zs11), row 9 1 (.slice A92 zs4.length c93) zs4.length (strV zs4)] (p_Parts_spec (joinS zs4) (by exact joinS_le (PartsR.may (by assumption)) (PartsR.len (by assumption)))) [] (by kernel_rfl) (Lend.nil _) ?_)
    rintro _ _ ⟨A918, c919, zs20, e21, rfl, rfl, hp22, hp23, hp24⟩
    refine RunR.sil hU [] 5 8 [2, 3, 5, 7, 8] [(2, .bool false), (3, .slice A92 zs4.length c93), (5, .slice A99 zs11.length c910), (7, .slice A918 zs20.length c919), (8, .int .i64 e21)] ((True) ∧ (True) ∧ (True) ∧ (True) ∧ (True) ∧ True) rfl (by kernel_rfl) ⟨trivial, trivial, trivial, trivial, trivial, trivial⟩ ?_
    refine RunR.done (by kernel_rfl) ?_
    refine kseq_n ?_
    refine RunC.seq ?_
    refine RunC.region ?_
    refine RunR.sil hU [] 1 1 [2, 3, 5, 7, 8, 39] [(2, .bool false), (3, .slice A92 zs4.length c93), (5, .slice A99 zs11.length c910), (7, .slice A918 zs20.length c919), (8, .int .i64 e21), (39, .slice A92 zs4.length c93)] ((True) ∧ True) rfl (by kernel_rfl) ⟨trivial, trivial⟩ ?_
    refine RunR.step (dst := some 40) (op := .call { callee := .value (.func 21), args := #[.tmp 39], argTypes := #[33] }) (by kernel_rfl) (Step.call 21 [.slice A92 zs4.length c93] (by kernel_rfl) (by kernel_rfl) [] [vw A92 (strV zs4)] [row 9 1 (.slice A918 zs20.length c919) zs20.length (strV zs20), row 9 1 (.slice A99 zs11.length c910) zs11.length (strV zs11), row 9 1 (.slice A92 zs4.length c93) zs4.length (strV zs4)] (p_Join_spec A92 c93 zs4 zs4.length (by exact PartsR.len (by assumption)) (by exact PartsR.may (by assumption)) (by first | assumption | omega | (simp only [List.length_append, List.length_cons, List.length_nil, List.length_set, List.length_replicate, List.length_take, List.length_drop]; omega) | (simp only [fits] at *; omega) | (simp only [List.length_append, List.length_cons, List.length_nil, List.length_set, List.length_replicate, List.length_take, List.length_drop] at *; omega) | (simp; done) | decide) (by first | rfl | assumption | omega | (simp only [List.length_append, List.length_cons, List.length_nil, List.length_set, List.length_replicate, List.length_take, List.length_drop]; omega) | (simp; done))) [] (by kernel_rfl) ((Lend.nil _).tells 2 (row 9 1 (.slice A92 zs4.length c93) zs4.length (strV zs4)) A92 (strV zs4) (by kernel_rfl) (tells_row _ _ _ _ _ _)) ?_)
    rintro _ _ ⟨rfl, rfl⟩
    refine RunR.sil hU [] 1 3 [2, 3, 7, 8, 40, 41] [(2, .bool false), (3, .slice A92 zs4.length c93), (7, .slice A918 zs20.length c919), (8, .int .i64 e21), (40, .string (joinS zs4)), (41, .slice A99 zs11.length c910)] ((True) ∧ True) rfl (by kernel_rfl) ⟨trivial, trivial⟩ ?_
    refine RunR.step (dst := some 42) (op := .call { callee := .value (.func 22), args := #[.tmp 41], argTypes := #[33] }) (by kernel_rfl) (Step.call 22 [.slice A99 zs11.length c910] (by kernel_rfl) (by kernel_rfl) [] [vw A99 (strV zs11)] [row 9 1 (.slice A918 zs20.length c919) zs20.length (strV zs20), row 9 1 (.slice A99 zs11.length c910) zs11.length (strV zs11), row 9 1 (.slice A92 zs4.length c93) zs4.length (strV zs4)] (pr_Join_spec A99 c910 zs11 zs11.length (by exact PartsR.len (by assumption)) (by exact PartsR.may (by assumption)) (by first | assumption | omega | (simp only [List.length_append, List.length_cons, List.length_nil, List.length_set, List.length_replicate, List.length_take, List.length_drop]; omega) | (simp only [fits] at *; omega) | (simp only [List.length_append, List.length_cons, List.length_nil, List.length_set, List.length_replicate, List.length_take, List.length_drop] at *; omega) | (simp; done) | decide) (by first | rfl | assumption | omega | (simp only [List.length_append, List.length_cons, List.length_nil, List.length_set, List.length_replicate, List.length_take, List.length_drop]; omega) | (simp; done))) [] (by kernel_rfl) ((Lend.nil _).tells 1 (row 9 1 (.slice A99 zs11.length c910) zs11.length (strV zs11)) A99 (strV zs11) (by kernel_rfl) (tells_row _ _ _ _ _ _)) ?_)
    rintro _ _ ⟨rfl, rfl⟩
    refine RunR.sil hU [] 2 6 [2, 3, 7, 8, 44] [(2, .bool false), (3, .slice A92 zs4.length c93), (7, .slice A918 zs20.length c919), (8, .int .i64 e21), (44, .bool (decide ((joinS zs4) = (joinS zs11))))] ((True) ∧ (True) ∧ True) rfl (by kernel_rfl) ⟨trivial, trivial, trivial⟩ ?_
    refine RunR.env [2, 3, 7, 8, 44] [(2, .bool false), (3, .slice A92 zs4.length c93), (7, .slice A918 zs20.length c919), (8, .int .i64 e21), (44, .bool (decide ((joinS zs4) = (joinS zs11))))] (by kernel_rfl) ?_
    have hk25 : ((joinS zs4) = (joinS zs11)) := by exact congrArg joinS (PartsR.same (by assumption) (by assumption)).2
    refine RunR.enveq [(2, .bool false), (3, .slice A92 zs4.length c93), (7, .slice A918 zs20.length c919), (8, .int .i64 e21), (44, .bool true)] (by rw [decide_eq_true hk25]; try rfl) ?_
    refine RunR.sil hU [] 4 10 [2, 3, 7, 48] [(2, .bool false), (3, .slice A92 zs4.length c93), (7, .slice A918 zs20.length c919), (48, .bool (decide (e21 = 0)))] ((True) ∧ (True) ∧ (True) ∧ (True) ∧ True) rfl (by kernel_rfl) ⟨trivial, trivial, trivial, trivial, trivial⟩ ?_
    refine RunR.env [2, 3, 7, 48] [(2, .bool false), (3, .slice A92 zs4.length c93), (7, .slice A918 zs20.length c919), (48, .bool (decide (e21 = 0)))] (by kernel_rfl) ?_
    have hk26 : (e21 = 0) := by exact (PartsR.join (by assumption) hp22).1
    refine RunR.enveq [(2, .bool false), (3, .slice A92 zs4.length c93), (7, .slice A918 zs20.length c919), (48, .bool true)] (by rw [decide_eq_true hk26]; try rfl) ?_
    refine RunR.sil hU [] 2 12 [2, 48, 49, 50] [(2, .bool false), (48, .bool true), (49, .slice A918 zs20.length c919), (50, .slice A92 zs4.length c93)] ((True) ∧ (True) ∧ True) rfl (by kernel_rfl) ⟨trivial, trivial, trivial⟩ ?_
    refine RunR.step (dst := some 51) (op := .call { callee := .value (.func 20), args := #[.tmp 49, .tmp 50], argTypes := #[33, 33] }) (by kernel_rfl) (Step.call 20 [.slice A918 zs20.length c919, .slice A92 zs4.length c93] (by kernel_rfl) (by kernel_rfl) [] [vw A918 (strV zs20), vw A92 (strV zs4)] [row 9 1 (.slice A918 zs20.length c919) zs20.length (strV zs20), row 9 1 (.slice A99 zs11.length c910) zs11.length (strV zs11), row 9 1 (.slice A92 zs4.length c93) zs4.length (strV zs4)] (pr_Same_spec A918 c919 zs20 A92 c93 zs4 zs20.length zs4.length (by exact Nat.le_trans (PartsR.len (by assumption)) (by decide)) (by exact (PartsR.may (by assumption)).sz) (by first | assumption | omega | (simp only [List.length_append, List.length_cons, List.length_nil, List.length_set, List.length_replicate, List.length_take, List.length_drop]; omega) | (simp only [fits] at *; omega) | (simp only [List.length_append, List.length_cons, List.length_nil, List.length_set, List.length_replicate, List.length_take, List.length_drop] at *; omega) | (simp; done) | decide) (by exact Nat.le_trans (PartsR.len (by assumption)) (by decide)) (by exact (PartsR.may (by assumption)).sz) (by first | assumption | omega | (simp only [List.length_append, List.length_cons, List.length_nil, List.length_set, List.length_replicate, List.length_take, List.length_drop]; omega) | (simp only [fits] at *; omega) | (simp only [List.length_append, List.length_cons, List.length_nil, List.length_set, List.length_replicate, List.length_take, List.length_drop] at *; omega) | (simp; done) | decide) (by first | rfl | assumption | omega | (simp only [List.length_append, List.length_cons, List.length_nil, List.length_set, List.length_replicate, List.length_take, List.length_drop]; omega) | (simp; done)) (by first | rfl | assumption | omega | (simp only [List.length_append, List.length_cons, List.length_nil, List.length_set, List.length_replicate, List.length_take, List.length_drop]; omega) | (simp; done))) [] (by kernel_rfl) (((Lend.nil _).tells 2 (row 9 1 (.slice A92 zs4.length c93) zs4.length (strV zs4)) A92 (strV zs4) (by kernel_rfl) (tells_row _ _ _ _ _ _)).tells 0 (row 9 1 (.slice A918 zs20.length c919) zs20.length (strV zs20)) A918 (strV zs20) (by kernel_rfl) (tells_row _ _ _ _ _ _)) ?_)
    rintro _ _ ⟨rfl, rfl⟩
    refine RunR.sil hU [] 2 15 [2] [(2, .bool (decide (zs20 = zs4)))] ((True) ∧ (True) ∧ True) rfl (by kernel_rfl) ⟨trivial, trivial, trivial⟩ ?_
    refine RunR.env [2] [(2, .bool (decide (zs20 = zs4)))] (by kernel_rfl) ?_
    have hk27 : (zs20 = zs4) := by first | exact (PartsR.same (by assumption) (by assumption)).2 | exact (PartsR.join (by assumption) (by assumption)).2
    refine RunR.enveq [(2, .bool true)] (by rw [decide_eq_true hk27]; try rfl) ?_
    refine RunR.done (by kernel_rfl) ?_
    refine kseq_n ?_
    refine RunC.ret ?_
    refine kret_r [.bool true] [] [] ⟨rfl, trivial⟩ (by kernel_rfl) rfl ⟨(by first | rfl | (exact congrArg Value.bool (decide_eq_true ((PartsR.join (by assumption) hp22).2)))), (by first | rfl | (exact congrArg Value.bool (decide_eq_true ((PartsR.join (by assumption) hp22).2))))⟩
end Go.Proofs.YtjhinpmnpdgadaaDoor.LPathParts
