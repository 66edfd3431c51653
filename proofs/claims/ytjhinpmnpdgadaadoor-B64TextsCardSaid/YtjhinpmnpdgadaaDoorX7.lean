/- What these functions compute: a contract for each, walked through its code. -/
import Derived.Test.YtjhinpmnpdgadaaDoorBTPure
import Derived.Test.YtjhinpmnpdgadaaDoorProg
import Derived.Test.YtjhinpmnpdgadaaDoorX1
import Derived.Test.YtjhinpmnpdgadaaDoorX2
import Derived.Test.YtjhinpmnpdgadaaDoorX3
import Derived.Test.YtjhinpmnpdgadaaDoorX4
import Derived.Test.YtjhinpmnpdgadaaDoorX5
import Derived.Test.YtjhinpmnpdgadaaDoorX6
namespace Go.Proofs.YtjhinpmnpdgadaaDoor.X7
open Go Go.Proofs.YtjhinpmnpdgadaaDoor.SL Go.Proofs.YtjhinpmnpdgadaaDoor.SL.W Go.Proofs.YtjhinpmnpdgadaaDoor.SL.Y Go.Proofs.YtjhinpmnpdgadaaDoor.SL.B Go.Proofs.YtjhinpmnpdgadaaDoor.X1 Go.Proofs.YtjhinpmnpdgadaaDoor.X2 Go.Proofs.YtjhinpmnpdgadaaDoor.X3 Go.Proofs.YtjhinpmnpdgadaaDoor.X4 Go.Proofs.YtjhinpmnpdgadaaDoor.X5 Go.Proofs.YtjhinpmnpdgadaaDoor.X6
set_option linter.unusedVariables false
set_option linter.unusedSimpArgs false
set_option maxRecDepth 100000
set_option maxHeartbeats 40000000
def U : Tab where
  und := [(3, .int .i64), (5, .int .u8), (9, .string), (22, .slice 5)]
  fld := []
  sz := [(3, 1), (5, 1), (9, 1), (22, 1)]
  ti := [(3, (1, 8, .int .i64 0)), (5, (1, 1, .int .u8 0)), (9, (1, 16, .string ⟨#[]⟩)), (22, (1, 24, .slice none 0 0))]
  bld := []

theorem hU : U.OK Tryd.prog where
  und := by
    intro p hp
    simp only [U, List.mem_cons, List.not_mem_nil, or_false] at hp
    rcases hp with rfl | rfl | rfl | rfl
    · exact Tryd.underlying3
    · exact Tryd.underlying5
    · exact Tryd.underlying9
    · exact Tryd.underlying22
  fld := by
    intro p hp; cases hp
  sz := by
    intro p hp
    simp only [U, List.mem_cons, List.not_mem_nil, or_false] at hp
    rcases hp with rfl | rfl | rfl | rfl
    · exact ⟨Tryd.prog.types[3]!, by kernel_rfl, by kernel_rfl⟩
    · exact ⟨Tryd.prog.types[5]!, by kernel_rfl, by kernel_rfl⟩
    · exact ⟨Tryd.prog.types[9]!, by kernel_rfl, by kernel_rfl⟩
    · exact ⟨Tryd.prog.types[22]!, by kernel_rfl, by kernel_rfl⟩
  ti := by
    intro p hp
    simp only [U, List.mem_cons, List.not_mem_nil, or_false] at hp
    rcases hp with rfl | rfl | rfl | rfl
    · exact ⟨Tryd.prog.types[3]!, by kernel_rfl, by kernel_rfl, by kernel_rfl, by kernel_rfl⟩
    · exact ⟨Tryd.prog.types[5]!, by kernel_rfl, by kernel_rfl, by kernel_rfl, by kernel_rfl⟩
    · exact ⟨Tryd.prog.types[9]!, by kernel_rfl, by kernel_rfl, by kernel_rfl, by kernel_rfl⟩
    · exact ⟨Tryd.prog.types[22]!, by kernel_rfl, by kernel_rfl, by kernel_rfl, by kernel_rfl⟩
  bld := by
    intro p hp; cases hp
  mixed := by kernel_rfl

theorem br_letter_spec (v : Int) (hv : 0 ≤ v ∧ v < 64) :
    CallsS Tryd.prog 28 [.int .i64 v] [] (fun r D => r = .string (strOfNums [ltr v]) ∧ D = []) := by
  refine CallsS.enter hU Tryd.f28 _ [.tmp 2] 28 Tryd.func28 rfl (by decide) rfl rfl (by kernel_rfl) fun w0 W => ?_
  refine RunC.seq ?_
  refine RunC.region ?_
  refine RunR.sil hU [] 1 1 [0, 2] [(0, .int .i64 v), (2, .string ⟨#[]⟩)] ((True) ∧ True) rfl (by kernel_rfl) ⟨trivial, trivial⟩ ?_
  refine RunR.done (by kernel_rfl) ?_
  refine kseq_n ?_
  refine RunC.seq ?_
  refine RunC.seq ?_
  refine RunC.region ?_
  refine RunR.sil hU [] 2 2 [0, 2, 4] [(0, .int .i64 v), (2, .string ⟨#[]⟩), (4, .bool (decide (v < 26)))] ((True) ∧ (True) ∧ True) rfl (by kernel_rfl) ⟨trivial, trivial, trivial⟩ ?_
  refine RunR.done (by kernel_rfl) ?_
  refine kseq_n ?_
  refine RunC.condp (v < 26) (by kernel_rfl) (fun h1 => ?_) (fun h1 => ?_)
  · skip
    refine RunC.seq ?_
    refine RunC.region ?_
    refine RunR.sil hU [1, 2] 3 3 [0, 2, 7] [(0, .int .i64 v), (2, .string ⟨#[]⟩), (7, .int .u8 (65 + v))] ((True) ∧ (-9223372036854775808 ≤ (65 + v) ∧ (65 + v) < 9223372036854775808) ∧ (0 ≤ (65 + v) ∧ (65 + v) < 256) ∧ True) rfl (by kernel_rfl) ⟨trivial, (by omega), (by omega), trivial⟩ ?_
    refine RunR.step (dst := some 8) (op := .buildSlice 22 1 #[(0, .tmp 7)]) (by kernel_rfl) (Step.lit_nums hU 5 1 .u8 (.int .u8 0) ([65 + v] : List Int) rfl rfl (by kernel_rfl) rfl rfl (by kernel_rfl) (fun b2 => ?_))
    have hl3 : (([65 + v] : List Int)).length = 1 := rfl
    refine RunR.step (dst := some 9) (op := .convert 22 9 (.tmp 8)) (by kernel_rfl) (Step.bytes_str hU 5 0 (row 5 1 (.slice (some ⟨b2, 0, none⟩) 1 1) 1 (nums .u8 ([65 + v] : List Int))) (some ⟨b2, 0, none⟩) 1 1 ([65 + v] : List Int) rfl rfl rfl (by kernel_rfl) (by kernel_rfl) (tells_row _ _ _ _ _ _) (by first | rfl | omega | (simp; done)) (by kernel_rfl) ?_)
    refine RunR.sil hU [] 1 6 [0, 2] [(0, .int .i64 v), (2, .string (strOfNums ([65 + v] : List Int)))] ((True) ∧ True) rfl (by kernel_rfl) ⟨trivial, trivial⟩ ?_
    refine RunR.done (by kernel_rfl) ?_
    refine kseq_n ?_
    refine RunC.ret ?_
    refine kseq_r ?_
    refine kret_r [.string (strOfNums ([65 + v] : List Int))] [] [] ⟨rfl, trivial⟩ (by kernel_rfl) rfl ⟨(by first | rfl | (first | (rw [let_of hv (by omega)]; rfl) | (rw [let_62 (by assumption)]; rfl) | (rw [let_63 (v := v) (by omega)]; rfl))), (by first | rfl | (first | (rw [let_of hv (by omega)]; rfl) | (rw [let_62 (by assumption)]; rfl) | (rw [let_63 (v := v) (by omega)]; rfl)))⟩
  · skip
    refine RunC.skip ?_
    refine kseq_n ?_
    refine RunC.seq ?_
    refine RunC.seq ?_
    refine RunC.region ?_
    refine RunR.sil hU [] 2 2 [0, 2, 11] [(0, .int .i64 v), (2, .string ⟨#[]⟩), (11, .bool (decide (v < 52)))] ((True) ∧ (True) ∧ True) rfl (by kernel_rfl) ⟨trivial, trivial, trivial⟩ ?_
    refine RunR.done (by kernel_rfl) ?_
    refine kseq_n ?_
    refine RunC.condp (v < 52) (by kernel_rfl) (fun h4 => ?_) (fun h4 => ?_)
    · skip
      refine RunC.seq ?_
      refine RunC.region ?_
      refine RunR.sil hU [1, 2, 3] 4 4 [0, 2, 15] [(0, .int .i64 v), (2, .string ⟨#[]⟩), (15, .int .u8 ((97 + v) - 26))] ((True) ∧ (-9223372036854775808 ≤ (97 + v) ∧ (97 + v) < 9223372036854775808) ∧ (-9223372036854775808 ≤ ((97 + v) - 26) ∧ ((97 + v) - 26) < 9223372036854775808) ∧ (0 ≤ ((97 + v) - 26) ∧ ((97 + v) - 26) < 256) ∧ True) rfl (by kernel_rfl) ⟨trivial, (by omega), (by omega), (by omega), trivial⟩ ?_
      refine RunR.step (dst := some 16) (op := .buildSlice 22 1 #[(0, .tmp 15)]) (by kernel_rfl) (Step.lit_nums hU 5 1 .u8 (.int .u8 0) ([(97 + v) - 26] : List Int) rfl rfl (by kernel_rfl) rfl rfl (by kernel_rfl) (fun b5 => ?_))
      have hl6 : (([(97 + v) - 26] : List Int)).length = 1 := rfl
      refine RunR.step (dst := some 17) (op := .convert 22 9 (.tmp 16)) (by kernel_rfl) (Step.bytes_str hU 5 0 (row 5 1 (.slice (some ⟨b5, 0, none⟩) 1 1) 1 (nums .u8 ([(97 + v) - 26] : List Int))) (some ⟨b5, 0, none⟩) 1 1 ([(97 + v) - 26] : List Int) rfl rfl rfl (by kernel_rfl) (by kernel_rfl) (tells_row _ _ _ _ _ _) (by first | rfl | omega | (simp; done)) (by kernel_rfl) ?_)
      refine RunR.sil hU [] 1 7 [0, 2] [(0, .int .i64 v), (2, .string (strOfNums ([(97 + v) - 26] : List Int)))] ((True) ∧ True) rfl (by kernel_rfl) ⟨trivial, trivial⟩ ?_
      refine RunR.done (by kernel_rfl) ?_
      refine kseq_n ?_
      refine RunC.ret ?_
      refine kseq_r ?_
      refine kret_r [.string (strOfNums ([(97 + v) - 26] : List Int))] [] [] ⟨rfl, trivial⟩ (by kernel_rfl) rfl ⟨(by first | rfl | (first | (rw [let_of hv (by omega)]; rfl) | (rw [let_62 (by assumption)]; rfl) | (rw [let_63 (v := v) (by omega)]; rfl))), (by first | rfl | (first | (rw [let_of hv (by omega)]; rfl) | (rw [let_62 (by assumption)]; rfl) | (rw [let_63 (v := v) (by omega)]; rfl)))⟩
    · skip
      refine RunC.skip ?_
      refine kseq_n ?_
      refine RunC.seq ?_
      refine RunC.seq ?_
      refine RunC.region ?_
      refine RunR.sil hU [] 2 2 [0, 2, 19] [(0, .int .i64 v), (2, .string ⟨#[]⟩), (19, .bool (decide (v < 62)))] ((True) ∧ (True) ∧ True) rfl (by kernel_rfl) ⟨trivial, trivial, trivial⟩ ?_
      refine RunR.done (by kernel_rfl) ?_
      refine kseq_n ?_
      refine RunC.condp (v < 62) (by kernel_rfl) (fun h7 => ?_) (fun h7 => ?_)
      · skip
        refine RunC.seq ?_
        refine RunC.region ?_
        refine RunR.sil hU [1, 2, 3] 4 4 [0, 2, 23] [(0, .int .i64 v), (2, .string ⟨#[]⟩), (23, .int .u8 ((48 + v) - 52))] ((True) ∧ (-9223372036854775808 ≤ (48 + v) ∧ (48 + v) < 9223372036854775808) ∧ (-9223372036854775808 ≤ ((48 + v) - 52) ∧ ((48 + v) - 52) < 9223372036854775808) ∧ (0 ≤ ((48 + v) - 52) ∧ ((48 + v) - 52) < 256) ∧ True) rfl (by kernel_rfl) ⟨trivial, (by omega), (by omega), (by omega), trivial⟩ ?_
        refine RunR.step (dst := some 24) (op := .buildSlice 22 1 #[(0, .tmp 23)]) (by kernel_rfl) (Step.lit_nums hU 5 1 .u8 (.int .u8 0) ([(48 + v) - 52] : List Int) rfl rfl (by kernel_rfl) rfl rfl (by kernel_rfl) (fun b8 => ?_))
        have hl9 : (([(48 + v) - 52] : List Int)).length = 1 := rfl
        refine RunR.step (dst := some 25) (op := .convert 22 9 (.tmp 24)) (by kernel_rfl) (Step.bytes_str hU 5 0 (row 5 1 (.slice (some ⟨b8, 0, none⟩) 1 1) 1 (nums .u8 ([(48 + v) - 52] : List Int))) (some ⟨b8, 0, none⟩) 1 1 ([(48 + v) - 52] : List Int) rfl rfl rfl (by kernel_rfl) (by kernel_rfl) (tells_row _ _ _ _ _ _) (by first | rfl | omega | (simp; done)) (by kernel_rfl) ?_)
        refine RunR.sil hU [] 1 7 [0, 2] [(0, .int .i64 v), (2, .string (strOfNums ([(48 + v) - 52] : List Int)))] ((True) ∧ True) rfl (by kernel_rfl) ⟨trivial, trivial⟩ ?_
        refine RunR.done (by kernel_rfl) ?_
        refine kseq_n ?_
        refine RunC.ret ?_
        refine kseq_r ?_
        refine kret_r [.string (strOfNums ([(48 + v) - 52] : List Int))] [] [] ⟨rfl, trivial⟩ (by kernel_rfl) rfl ⟨(by first | rfl | (first | (rw [let_of hv (by omega)]; rfl) | (rw [let_62 (by assumption)]; rfl) | (rw [let_63 (v := v) (by omega)]; rfl))), (by first | rfl | (first | (rw [let_of hv (by omega)]; rfl) | (rw [let_62 (by assumption)]; rfl) | (rw [let_63 (v := v) (by omega)]; rfl)))⟩
      · skip
        refine RunC.skip ?_
        refine kseq_n ?_
        refine RunC.seq ?_
        refine RunC.seq ?_
        refine RunC.region ?_
        refine RunR.sil hU [] 2 2 [2, 27] [(2, .string ⟨#[]⟩), (27, .bool (decide (v = 62)))] ((True) ∧ (True) ∧ True) rfl (by kernel_rfl) ⟨trivial, trivial, trivial⟩ ?_
        refine RunR.done (by kernel_rfl) ?_
        refine kseq_n ?_
        refine RunC.condp (v = 62) (by kernel_rfl) (fun h10 => ?_) (fun h10 => ?_)
        · skip
          refine RunC.seq ?_
          refine RunC.region ?_
          refine RunR.sil hU [] 1 1 [2] [(2, .string ⟨#[43]⟩)] ((True) ∧ True) rfl (by kernel_rfl) ⟨trivial, trivial⟩ ?_
          refine RunR.done (by kernel_rfl) ?_
          refine kseq_n ?_
          refine RunC.ret ?_
          refine kseq_r ?_
          refine kret_r [.string ⟨#[43]⟩] [] [] ⟨rfl, trivial⟩ (by kernel_rfl) rfl ⟨(by first | rfl | (first | (rw [let_of hv (by omega)]; rfl) | (rw [let_62 (by assumption)]; rfl) | (rw [let_63 (v := v) (by omega)]; rfl))), (by first | rfl | (first | (rw [let_of hv (by omega)]; rfl) | (rw [let_62 (by assumption)]; rfl) | (rw [let_63 (v := v) (by omega)]; rfl)))⟩
        · skip
          refine RunC.skip ?_
          refine kseq_n ?_
          refine RunC.seq ?_
          refine RunC.region ?_
          refine RunR.sil hU [] 1 1 [2] [(2, .string ⟨#[47]⟩)] ((True) ∧ True) rfl (by kernel_rfl) ⟨trivial, trivial⟩ ?_
          refine RunR.done (by kernel_rfl) ?_
          refine kseq_n ?_
          refine RunC.ret ?_
          refine kret_r [.string ⟨#[47]⟩] [] [] ⟨rfl, trivial⟩ (by kernel_rfl) rfl ⟨(by first | rfl | (first | (rw [let_of hv (by omega)]; rfl) | (rw [let_62 (by assumption)]; rfl) | (rw [let_63 (v := v) (by omega)]; rfl))), (by first | rfl | (first | (rw [let_of hv (by omega)]; rfl) | (rw [let_62 (by assumption)]; rfl) | (rw [let_63 (v := v) (by omega)]; rfl)))⟩
end Go.Proofs.YtjhinpmnpdgadaaDoor.X7
