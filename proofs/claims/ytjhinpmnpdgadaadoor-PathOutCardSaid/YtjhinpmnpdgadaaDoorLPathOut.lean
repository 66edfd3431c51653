/- The law PathOut returns true whatever it is handed: its walk, on the contracts of what it calls. -/
import Derived.Test.YtjhinpmnpdgadaaDoorZPure
import Derived.Test.YtjhinpmnpdgadaaDoorProg
import Derived.Test.YtjhinpmnpdgadaaDoorX1
import Derived.Test.YtjhinpmnpdgadaaDoorX2
import Derived.Test.YtjhinpmnpdgadaaDoorX3
import Derived.Test.YtjhinpmnpdgadaaDoorX4
import Derived.Test.YtjhinpmnpdgadaaDoorX5
import Derived.Test.YtjhinpmnpdgadaaDoorX6
import Derived.Test.YtjhinpmnpdgadaaDoorX7
import Derived.Test.YtjhinpmnpdgadaaDoorX8
import Derived.Test.YtjhinpmnpdgadaaDoorX9
namespace Go.Proofs.YtjhinpmnpdgadaaDoor.LPathOut
open Go Go.Proofs.YtjhinpmnpdgadaaDoor.SL Go.Proofs.YtjhinpmnpdgadaaDoor.SL.W Go.Proofs.YtjhinpmnpdgadaaDoor.SL.Z Go.Proofs.YtjhinpmnpdgadaaDoor.X1 Go.Proofs.YtjhinpmnpdgadaaDoor.X2 Go.Proofs.YtjhinpmnpdgadaaDoor.X3 Go.Proofs.YtjhinpmnpdgadaaDoor.X4 Go.Proofs.YtjhinpmnpdgadaaDoor.X5 Go.Proofs.YtjhinpmnpdgadaaDoor.X6 Go.Proofs.YtjhinpmnpdgadaaDoor.X7 Go.Proofs.YtjhinpmnpdgadaaDoor.X8 Go.Proofs.YtjhinpmnpdgadaaDoor.X9
set_option linter.unusedVariables false
set_option linter.unusedSimpArgs false
set_option maxRecDepth 100000
set_option maxHeartbeats 40000000
def U : Tab where
  und := [(3, .int .i64), (9, .string), (34, .int .i64)]
  fld := []
  sz := [(3, 1), (9, 1), (34, 1)]
  ti := [(3, (1, 8, .int .i64 0)), (9, (1, 16, .string ⟨#[]⟩)), (34, (1, 8, .int .i64 0))]
  bld := []

theorem hU : U.OK Tryd.prog where
  und := by
    intro p hp
    simp only [U, List.mem_cons, List.not_mem_nil, or_false] at hp
    rcases hp with rfl | rfl | rfl
    · exact Tryd.underlying3
    · exact Tryd.underlying9
    · exact Tryd.underlying34
  fld := by
    intro p hp; cases hp
  sz := by
    intro p hp
    simp only [U, List.mem_cons, List.not_mem_nil, or_false] at hp
    rcases hp with rfl | rfl | rfl
    · exact ⟨Tryd.prog.types[3]!, by kernel_rfl, by kernel_rfl⟩
    · exact ⟨Tryd.prog.types[9]!, by kernel_rfl, by kernel_rfl⟩
    · exact ⟨Tryd.prog.types[34]!, by kernel_rfl, by kernel_rfl⟩
  ti := by
    intro p hp
    simp only [U, List.mem_cons, List.not_mem_nil, or_false] at hp
    rcases hp with rfl | rfl | rfl
    · exact ⟨Tryd.prog.types[3]!, by kernel_rfl, by kernel_rfl, by kernel_rfl, by kernel_rfl⟩
    · exact ⟨Tryd.prog.types[9]!, by kernel_rfl, by kernel_rfl, by kernel_rfl, by kernel_rfl⟩
    · exact ⟨Tryd.prog.types[34]!, by kernel_rfl, by kernel_rfl, by kernel_rfl, by kernel_rfl⟩
  bld := by
    intro p hp; cases hp
  mixed := by kernel_rfl

theorem l20_Out_spec (a : ByteArray) (b : ByteArray) (ha : (a : ByteArray).size ≤ 140737488355328) (hb : (b : ByteArray).size ≤ 140737488355328) :
    CallsS Tryd.prog 9 [.string a, .string b] [] (fun r D => r = .bool true ∧ D = []) := by
  refine CallsS.enter hU Tryd.f9 _ [.tmp 4] 51 Tryd.func9 rfl (by decide) rfl rfl (by kernel_rfl) fun w0 W => ?_
  refine RunC.seq ?_
  refine RunC.region ?_
  refine RunR.sil hU [] 1 1 [0, 1, 4] [(0, .string a), (1, .string b), (4, .bool false)] ((True) ∧ True) rfl (by kernel_rfl) ⟨trivial, trivial⟩ ?_
  refine RunR.done (by kernel_rfl) ?_
  refine kseq_n ?_
  refine RunC.seq ?_
  refine RunC.seq ?_
  refine RunC.region ?_
  refine RunR.step (dst := some 11) (op := .call { callee := .value (.func 17), args := #[], argTypes := #[] }) (by kernel_rfl) (Step.call 17 [] (by kernel_rfl) (by kernel_rfl) [] [] [] (l20_awake_spec) [] (by kernel_rfl) (Lend.nil _) ?_)
  rintro _ _ ⟨rfl, rfl⟩
  refine RunR.sil hU [] 1 2 [0, 1, 4, 12] [(0, .string a), (1, .string b), (4, .bool false), (12, .bool false)] ((True) ∧ True) rfl (by kernel_rfl) ⟨trivial, trivial⟩ ?_
  refine RunR.done (by kernel_rfl) ?_
  refine kseq_n ?_
  refine RunC.cond (b := false) (by kernel_rfl) (fun h => by cases h) (fun _ => ?_)
  refine RunC.skip ?_
  refine kseq_n ?_
  refine RunC.seq ?_
  refine RunC.seq ?_
  refine RunC.region ?_
  refine RunR.sil hU [] 4 4 [0, 1, 4, 16] [(0, .string a), (1, .string b), (4, .bool false), (16, .bool (decide (((a : ByteArray).size : Int) > 3000)))] ((True) ∧ (True) ∧ (True) ∧ (True) ∧ True) rfl (by kernel_rfl) ⟨trivial, trivial, trivial, trivial, trivial⟩ ?_
  refine RunR.env [0, 1, 4, 16] [(0, .string a), (1, .string b), (4, .bool false), (16, .bool (decide (((a : ByteArray).size : Int) > 3000)))] (by kernel_rfl) ?_
  by_cases h1 : ((a : ByteArray).size : Int) > 3000
  · skip
    refine RunR.enveq [(0, .string a), (1, .string b), (4, .bool false), (16, .bool true)] (by rw [decide_eq_true h1]; try rfl) ?_
    refine RunR.sil hU [] 4 8 [0, 1, 4, 20] [(0, .string a), (1, .string b), (4, .bool false), (20, .bool true)] ((True) ∧ True) rfl (by kernel_rfl) ⟨trivial, trivial⟩ ?_
    refine RunR.done (by kernel_rfl) ?_
    refine kseq_n ?_
    refine RunC.cond (b := true) (by kernel_rfl) (fun _ => ?_) (fun h => by cases h)
    refine RunC.seq ?_
    refine RunC.region ?_
    refine RunR.sil hU [] 1 1 [0, 1, 4] [(0, .string a), (1, .string b), (4, .bool true)] ((True) ∧ True) rfl (by kernel_rfl) ⟨trivial, trivial⟩ ?_
    refine RunR.done (by kernel_rfl) ?_
    refine kseq_n ?_
    refine RunC.ret ?_
    refine kseq_r ?_
    refine kret_r [.bool true] [] [] ⟨rfl, trivial⟩ (by kernel_rfl) rfl ⟨rfl, rfl⟩
  · skip
    refine RunR.enveq [(0, .string a), (1, .string b), (4, .bool false), (16, .bool false)] (by rw [decide_eq_false h1]; try rfl) ?_
    refine RunR.sil hU [] 4 8 [0, 1, 4, 20] [(0, .string a), (1, .string b), (4, .bool false), (20, .bool (decide (((b : ByteArray).size : Int) > 3000)))] ((True) ∧ (True) ∧ (True) ∧ (True) ∧ True) rfl (by kernel_rfl) ⟨trivial, trivial, trivial, trivial, trivial⟩ ?_
    refine RunR.done (by kernel_rfl) ?_
    refine kseq_n ?_
    refine RunC.condp (((b : ByteArray).size : Int) > 3000) (by kernel_rfl) (fun h2 => ?_) (fun h2 => ?_)
    · skip
      refine RunC.seq ?_
      refine RunC.region ?_
      refine RunR.sil hU [] 1 1 [0, 1, 4] [(0, .string a), (1, .string b), (4, .bool true)] ((True) ∧ True) rfl (by kernel_rfl) ⟨trivial, trivial⟩ ?_
      refine RunR.done (by kernel_rfl) ?_
      refine kseq_n ?_
      refine RunC.ret ?_
      refine kseq_r ?_
      refine kret_r [.bool true] [] [] ⟨rfl, trivial⟩ (by kernel_rfl) rfl ⟨rfl, rfl⟩
    · skip
      refine RunC.skip ?_
      refine kseq_n ?_
      refine RunC.seq ?_
      refine RunC.region ?_
      refine RunR.sil hU [] 2 2 [0, 1, 4, 23] [(0, .string a), (1, .string b), (4, .bool false), (23, .string ((⟨#[47]⟩ : ByteArray) ++ a))] ((True) ∧ ((⟨#[47]⟩ : ByteArray).size + (a : ByteArray).size ≤ 9223372036854775807) ∧ True) rfl (by kernel_rfl) ⟨trivial, (by have h1_ : (⟨#[47]⟩ : ByteArray).size = 1 := rfl; have h2_ : (⟨#[47, 46, 46, 47]⟩ : ByteArray).size = 4 := rfl; have h3_ : (⟨#[46, 46, 47]⟩ : ByteArray).size = 3 := rfl; (try simp only [app_size]); omega), trivial⟩ ?_
      refine RunR.step (dst := some 24) (op := .call { callee := .value (.func 18), args := #[.tmp 23], argTypes := #[9] }) (by kernel_rfl) (Step.call 18 [.string ((⟨#[47]⟩ : ByteArray) ++ a)] (by kernel_rfl) (by kernel_rfl) [] [] [] (p_Parts_spec ((⟨#[47]⟩ : ByteArray) ++ a) (by have h1_ : (⟨#[47]⟩ : ByteArray).size = 1 := rfl; have h2_ : (⟨#[47, 46, 46, 47]⟩ : ByteArray).size = 4 := rfl; have h3_ : (⟨#[46, 46, 47]⟩ : ByteArray).size = 3 := rfl; (try simp only [app_size]); omega)) [] (by kernel_rfl) (Lend.nil _) ?_)
      rintro _ _ ⟨A93, c94, zs5, e6, rfl, rfl, hp7, hp8, hp9⟩
      refine RunR.sil hU [] 5 8 [0, 1, 4, 6] [(0, .string a), (1, .string b), (4, .bool false), (6, .int .i64 e6)] ((True) ∧ (True) ∧ (True) ∧ (True) ∧ (True) ∧ True) rfl (by kernel_rfl) ⟨trivial, trivial, trivial, trivial, trivial, trivial⟩ ?_
      refine RunR.done (by kernel_rfl) ?_
      refine kseq_n ?_
      refine RunC.seq ?_
      refine RunC.region ?_
      refine RunR.sil hU [] 4 4 [1, 4, 6, 31] [(1, .string b), (4, .bool false), (6, .int .i64 e6), (31, .string ((a ++ (⟨#[47, 46, 46, 47]⟩ : ByteArray)) ++ b))] ((True) ∧ ((a : ByteArray).size + (⟨#[47, 46, 46, 47]⟩ : ByteArray).size ≤ 9223372036854775807) ∧ (True) ∧ ((a ++ (⟨#[47, 46, 46, 47]⟩ : ByteArray) : ByteArray).size + (b : ByteArray).size ≤ 9223372036854775807) ∧ True) rfl (by kernel_rfl) ⟨trivial, (by have h1_ : (⟨#[47]⟩ : ByteArray).size = 1 := rfl; have h2_ : (⟨#[47, 46, 46, 47]⟩ : ByteArray).size = 4 := rfl; have h3_ : (⟨#[46, 46, 47]⟩ : ByteArray).size = 3 := rfl; (try simp only [app_size]); omega), trivial, (by have h1_ : (⟨#[47]⟩ : ByteArray).size = 1 := rfl; have h2_ : (⟨#[47, 46, 46, 47]⟩ : ByteArray).size = 4 := rfl; have h3_ : (⟨#[46, 46, 47]⟩ : ByteArray).size = 3 := rfl; (try simp only [app_size]); omega), trivial⟩ ?_
      refine RunR.step (dst := some 32) (op := .call { callee := .value (.func 18), args := #[.tmp 31], argTypes := #[9] }) (by kernel_rfl) (Step.call 18 [.string ((a ++ (⟨#[47, 46, 46, 47]⟩ : ByteArray)) ++ b)] (by kernel_rfl) (by kernel_rfl) [] [] [row 9 1 (.slice A93 zs5.length c94) zs5.length (strV zs5)] (p_Parts_spec ((a ++ (⟨#[47, 46, 46, 47]⟩ : ByteArray)) ++ b) (by have h1_ : (⟨#[47]⟩ : ByteArray).size = 1 := rfl; have h2_ : (⟨#[47, 46, 46, 47]⟩ : ByteArray).size = 4 := rfl; have h3_ : (⟨#[46, 46, 47]⟩ : ByteArray).size = 3 := rfl; (try simp only [app_size]); omega)) [] (by kernel_rfl) (Lend.nil _) ?_)
      rintro _ _ ⟨A910, c911, zs12, e13, rfl, rfl, hp14, hp15, hp16⟩
      refine RunR.sil hU [] 5 10 [1, 4, 6, 8] [(1, .string b), (4, .bool false), (6, .int .i64 e6), (8, .int .i64 e13)] ((True) ∧ (True) ∧ (True) ∧ (True) ∧ (True) ∧ True) rfl (by kernel_rfl) ⟨trivial, trivial, trivial, trivial, trivial, trivial⟩ ?_
      refine RunR.done (by kernel_rfl) ?_
      refine kseq_n ?_
      refine RunC.seq ?_
      refine RunC.region ?_
      refine RunR.sil hU [] 2 2 [4, 6, 8, 37] [(4, .bool false), (6, .int .i64 e6), (8, .int .i64 e13), (37, .string ((⟨#[46, 46, 47]⟩ : ByteArray) ++ b))] ((True) ∧ ((⟨#[46, 46, 47]⟩ : ByteArray).size + (b : ByteArray).size ≤ 9223372036854775807) ∧ True) rfl (by kernel_rfl) ⟨trivial, (by have h1_ : (⟨#[47]⟩ : ByteArray).size = 1 := rfl; have h2_ : (⟨#[47, 46, 46, 47]⟩ : ByteArray).size = 4 := rfl; have h3_ : (⟨#[46, 46, 47]⟩ : ByteArray).size = 3 := rfl; (try simp only [app_size]); omega), trivial⟩ ?_
      refine RunR.step (dst := some 38) (op := .call { callee := .value (.func 18), args := #[.tmp 37], argTypes := #[9] }) (by kernel_rfl) (Step.call 18 [.string ((⟨#[46, 46, 47]⟩ : ByteArray) ++ b)] (by kernel_rfl) (by kernel_rfl) [] [] [row 9 1 (.slice A910 zs12.length c911) zs12.length (strV zs12), row 9 1 (.slice A93 zs5.length c94) zs5.length (strV zs5)] (p_Parts_spec ((⟨#[46, 46, 47]⟩ : ByteArray) ++ b) (by have h1_ : (⟨#[47]⟩ : ByteArray).size = 1 := rfl; have h2_ : (⟨#[47, 46, 46, 47]⟩ : ByteArray).size = 4 := rfl; have h3_ : (⟨#[46, 46, 47]⟩ : ByteArray).size = 3 := rfl; (try simp only [app_size]); omega)) [] (by kernel_rfl) (Lend.nil _) ?_)
      rintro _ _ ⟨A917, c918, zs19, e20, rfl, rfl, hp21, hp22, hp23⟩
      refine RunR.sil hU [] 5 8 [4, 6, 8, 10] [(4, .bool false), (6, .int .i64 e6), (8, .int .i64 e13), (10, .int .i64 e20)] ((True) ∧ (True) ∧ (True) ∧ (True) ∧ (True) ∧ True) rfl (by kernel_rfl) ⟨trivial, trivial, trivial, trivial, trivial, trivial⟩ ?_
      refine RunR.done (by kernel_rfl) ?_
      refine kseq_n ?_
      refine RunC.seq ?_
      refine RunC.region ?_
      refine RunR.sil hU [] 3 3 [4, 8, 10, 43] [(4, .bool false), (8, .int .i64 e13), (10, .int .i64 e20), (43, .bool (decide (e6 = 12)))] ((True) ∧ (True) ∧ (True) ∧ True) rfl (by kernel_rfl) ⟨trivial, trivial, trivial, trivial⟩ ?_
      refine RunR.env [4, 8, 10, 43] [(4, .bool false), (8, .int .i64 e13), (10, .int .i64 e20), (43, .bool (decide (e6 = 12)))] (by kernel_rfl) ?_
      have hk24 : (e6 = 12) := by first | exact po_1 hp7 | exact po_2 hp14 | exact po_3 hp21
      refine RunR.enveq [(4, .bool false), (8, .int .i64 e13), (10, .int .i64 e20), (43, .bool true)] (by rw [decide_eq_true hk24]; try rfl) ?_
      refine RunR.sil hU [] 4 7 [4, 10, 47] [(4, .bool false), (10, .int .i64 e20), (47, .bool (decide (e13 = 12)))] ((True) ∧ (True) ∧ (True) ∧ (True) ∧ True) rfl (by kernel_rfl) ⟨trivial, trivial, trivial, trivial, trivial⟩ ?_
      refine RunR.env [4, 10, 47] [(4, .bool false), (10, .int .i64 e20), (47, .bool (decide (e13 = 12)))] (by kernel_rfl) ?_
      have hk25 : (e13 = 12) := by first | exact po_1 hp7 | exact po_2 hp14 | exact po_3 hp21
      refine RunR.enveq [(4, .bool false), (10, .int .i64 e20), (47, .bool true)] (by rw [decide_eq_true hk25]; try rfl) ?_
      refine RunR.sil hU [] 4 11 [4] [(4, .bool (decide (e20 = 12)))] ((True) ∧ (True) ∧ (True) ∧ (True) ∧ True) rfl (by kernel_rfl) ⟨trivial, trivial, trivial, trivial, trivial⟩ ?_
      refine RunR.env [4] [(4, .bool (decide (e20 = 12)))] (by kernel_rfl) ?_
      have hk26 : (e20 = 12) := by first | exact po_1 hp7 | exact po_2 hp14 | exact po_3 hp21
      refine RunR.enveq [(4, .bool true)] (by rw [decide_eq_true hk26]; try rfl) ?_
      refine RunR.done (by kernel_rfl) ?_
      refine kseq_n ?_
      refine RunC.ret ?_
      refine kret_r [.bool true] [] [] ⟨rfl, trivial⟩ (by kernel_rfl) rfl ⟨rfl, rfl⟩
end Go.Proofs.YtjhinpmnpdgadaaDoor.LPathOut
