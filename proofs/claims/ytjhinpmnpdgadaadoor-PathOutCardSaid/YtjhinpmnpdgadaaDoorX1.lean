/- What these functions compute: a contract for each, walked through its code. -/
import Derived.Test.YtjhinpmnpdgadaaDoorZPure
import Derived.Test.YtjhinpmnpdgadaaDoorProg
namespace Go.Proofs.YtjhinpmnpdgadaaDoor.X1
open Go Go.Proofs.YtjhinpmnpdgadaaDoor.SL Go.Proofs.YtjhinpmnpdgadaaDoor.SL.W Go.Proofs.YtjhinpmnpdgadaaDoor.SL.Z
set_option linter.unusedVariables false
set_option linter.unusedSimpArgs false
set_option maxRecDepth 100000
set_option maxHeartbeats 40000000
def U : Tab where
  und := [(3, .int .i64), (5, .int .u8), (9, .string)]
  fld := []
  sz := [(3, 1), (5, 1), (9, 1)]
  ti := [(3, (1, 8, .int .i64 0)), (5, (1, 1, .int .u8 0)), (9, (1, 16, .string ⟨#[]⟩))]
  bld := []

theorem hU : U.OK Tryd.prog where
  und := by
    intro p hp
    simp only [U, List.mem_cons, List.not_mem_nil, or_false] at hp
    rcases hp with rfl | rfl | rfl
    · exact Tryd.underlying3
    · exact Tryd.underlying5
    · exact Tryd.underlying9
  fld := by
    intro p hp; cases hp
  sz := by
    intro p hp
    simp only [U, List.mem_cons, List.not_mem_nil, or_false] at hp
    rcases hp with rfl | rfl | rfl
    · exact ⟨Tryd.prog.types[3]!, by kernel_rfl, by kernel_rfl⟩
    · exact ⟨Tryd.prog.types[5]!, by kernel_rfl, by kernel_rfl⟩
    · exact ⟨Tryd.prog.types[9]!, by kernel_rfl, by kernel_rfl⟩
  ti := by
    intro p hp
    simp only [U, List.mem_cons, List.not_mem_nil, or_false] at hp
    rcases hp with rfl | rfl | rfl
    · exact ⟨Tryd.prog.types[3]!, by kernel_rfl, by kernel_rfl, by kernel_rfl, by kernel_rfl⟩
    · exact ⟨Tryd.prog.types[5]!, by kernel_rfl, by kernel_rfl, by kernel_rfl, by kernel_rfl⟩
    · exact ⟨Tryd.prog.types[9]!, by kernel_rfl, by kernel_rfl, by kernel_rfl, by kernel_rfl⟩
  bld := by
    intro p hp; cases hp
  mixed := by kernel_rfl

theorem sl_IndexByte_spec (s : ByteArray) (x : Int) :
    CallsS Tryd.prog 54 [.string s, .int .u8 x] [] (fun r D => r = .int .i64 (Lib.indexByte (s : ByteArray).data.toList (x : Int).toNat.toUInt8) ∧ D = []) := by
  refine CallsS.enter hU Tryd.f54 _ [.tmp 4] 8 Tryd.func54 rfl (by decide) rfl rfl (by kernel_rfl) fun w0 W => ?_
  refine RunC.seq ?_
  refine RunC.region ?_
  refine RunR.sil hU [] 1 1 [0, 1, 4] [(0, .string s), (1, .int .u8 x), (4, .int .i64 0)] ((True) ∧ True) rfl (by kernel_rfl) ⟨trivial, trivial⟩ ?_
  refine RunR.done (by kernel_rfl) ?_
  refine kseq_n ?_
  refine RunC.seq ?_
  refine RunC.region ?_
  refine RunR.sil hU [] 2 2 [4, 5, 6] [(4, .int .i64 0), (5, .string s), (6, .int .u8 x)] ((True) ∧ (True) ∧ True) rfl (by kernel_rfl) ⟨trivial, trivial, trivial⟩ ?_
  refine RunR.step (dst := some 7) (op := .call { callee := .value (.func 62), args := #[.tmp 5, .tmp 6], argTypes := #[9, 5] }) (by kernel_rfl) (Step.extern 62 [.string s, .int .u8 x] Tryd.f62 Extern.BytealgIndexByte.indexByte (.int .i64 (Lib.indexByte (s : ByteArray).data.toList (x : Int).toNat.toUInt8)) (by kernel_rfl) Tryd.func62 (by kernel_rfl) (by kernel_rfl) (by kernel_rfl) (by kernel_rfl) (fun w => Lib.run_indexByteString _ _ w) (by kernel_rfl) ?_)
  refine RunR.sil hU [] 1 4 [4] [(4, .int .i64 (Lib.indexByte (s : ByteArray).data.toList (x : Int).toNat.toUInt8))] ((True) ∧ True) rfl (by kernel_rfl) ⟨trivial, trivial⟩ ?_
  refine RunR.done (by kernel_rfl) ?_
  refine kseq_n ?_
  refine RunC.ret ?_
  refine kret_r [.int .i64 (Lib.indexByte (s : ByteArray).data.toList (x : Int).toNat.toUInt8)] [] [] ⟨rfl, trivial⟩ (by kernel_rfl) rfl ⟨rfl, rfl⟩

theorem s_IndexByte_spec (s : ByteArray) (x : Int) :
    CallsS Tryd.prog 43 [.string s, .int .u8 x] [] (fun r D => r = .int .i64 (Lib.indexByte (s : ByteArray).data.toList (x : Int).toNat.toUInt8) ∧ D = []) := by
  refine CallsS.enter hU Tryd.f43 _ [.tmp 4] 8 Tryd.func43 rfl (by decide) rfl rfl (by kernel_rfl) fun w0 W => ?_
  refine RunC.seq ?_
  refine RunC.region ?_
  refine RunR.sil hU [] 1 1 [0, 1, 4] [(0, .string s), (1, .int .u8 x), (4, .int .i64 0)] ((True) ∧ True) rfl (by kernel_rfl) ⟨trivial, trivial⟩ ?_
  refine RunR.done (by kernel_rfl) ?_
  refine kseq_n ?_
  refine RunC.seq ?_
  refine RunC.region ?_
  refine RunR.sil hU [] 2 2 [4, 5, 6] [(4, .int .i64 0), (5, .string s), (6, .int .u8 x)] ((True) ∧ (True) ∧ True) rfl (by kernel_rfl) ⟨trivial, trivial, trivial⟩ ?_
  refine RunR.step (dst := some 7) (op := .call { callee := .value (.func 54), args := #[.tmp 5, .tmp 6], argTypes := #[9, 5] }) (by kernel_rfl) (Step.call 54 [.string s, .int .u8 x] (by kernel_rfl) (by kernel_rfl) [] [] [] (sl_IndexByte_spec s x) [] (by kernel_rfl) (Lend.nil _) ?_)
  rintro _ _ ⟨rfl, rfl⟩
  refine RunR.sil hU [] 1 4 [4] [(4, .int .i64 (Lib.indexByte (s : ByteArray).data.toList (x : Int).toNat.toUInt8))] ((True) ∧ True) rfl (by kernel_rfl) ⟨trivial, trivial⟩ ?_
  refine RunR.done (by kernel_rfl) ?_
  refine kseq_n ?_
  refine RunC.ret ?_
  refine kret_r [.int .i64 (Lib.indexByte (s : ByteArray).data.toList (x : Int).toNat.toUInt8)] [] [] ⟨rfl, trivial⟩ (by kernel_rfl) rfl ⟨rfl, rfl⟩

theorem p_may_spec (s : ByteArray) (hsz : (s : ByteArray).size ≤ 140737488351232) :
    CallsS Tryd.prog 33 [.string s] [] (fun r D => r = .bool (decide (mayP (sb s))) ∧ D = []) := by
  refine CallsS.enter hU Tryd.f33 _ [.tmp 2] 16 Tryd.func33 rfl (by decide) rfl rfl (by kernel_rfl) fun w0 W => ?_
  refine RunC.seq ?_
  refine RunC.region ?_
  refine RunR.sil hU [] 1 1 [0, 2] [(0, .string s), (2, .bool false)] ((True) ∧ True) rfl (by kernel_rfl) ⟨trivial, trivial⟩ ?_
  refine RunR.done (by kernel_rfl) ?_
  refine kseq_n ?_
  refine RunC.seq ?_
  refine RunC.seq ?_
  refine RunC.region ?_
  refine RunR.sil hU [] 1 1 [0, 2, 3] [(0, .string s), (2, .bool false), (3, .string s)] ((True) ∧ True) rfl (by kernel_rfl) ⟨trivial, trivial⟩ ?_
  refine RunR.done (by kernel_rfl) ?_
  refine kseq_n ?_
  refine RunC.block ?_
  refine RunC.seq ?_
  refine RunC.seq ?_
  refine RunC.region ?_
  refine RunR.sil hU [] 2 2 [0, 2, 3, 4] [(0, .string s), (2, .bool false), (3, .string s), (4, .bool (decide (s = ⟨#[]⟩)))] ((True) ∧ (True) ∧ True) rfl (by kernel_rfl) ⟨trivial, trivial, trivial⟩ ?_
  refine RunR.done (by kernel_rfl) ?_
  refine kseq_n ?_
  refine RunC.condp (s = ⟨#[]⟩) (by kernel_rfl) (fun h1 => ?_) (fun h1 => ?_)
  · skip
    refine RunC.skip ?_
    refine kseq_n ?_
    refine RunC.env [0, 2, 3, 4] [(0, .string s), (2, .bool false), (3, .string s), (4, .bool (decide (s = ⟨#[]⟩)))] (by kernel_rfl) ?_
    have hk2 : (s = ⟨#[]⟩) := by exact h1
    refine RunC.enveq [(0, .string s), (2, .bool false), (3, .string s), (4, .bool true)] (by rw [decide_eq_true hk2]; try rfl) ?_
    refine RunC.cond (b := true) (by kernel_rfl) (fun _ => ?_) (fun h => by cases h)
    refine RunC.seq ?_
    refine RunC.region ?_
    refine RunR.sil hU [] 1 1 [0, 2] [(0, .string s), (2, .bool false)] ((True) ∧ True) rfl (by kernel_rfl) ⟨trivial, trivial⟩ ?_
    refine RunR.done (by kernel_rfl) ?_
    refine kseq_n ?_
    refine RunC.ret ?_
    refine kblock_r ?_
    refine kseq_r ?_
    refine kret_r [.bool false] [] [] ⟨rfl, trivial⟩ (by kernel_rfl) rfl ⟨(by first | rfl | (exact congrArg Value.bool (decide_eq_false (may_1 (by assumption))).symm)), (by first | rfl | (exact congrArg Value.bool (decide_eq_false (may_1 (by assumption))).symm))⟩
  · skip
    refine RunC.seq ?_
    refine RunC.region ?_
    refine RunR.sil hU [] 2 2 [0, 2, 3, 4] [(0, .string s), (2, .bool false), (3, .string s), (4, .bool (decide (s = ⟨#[46]⟩)))] ((True) ∧ (True) ∧ True) rfl (by kernel_rfl) ⟨trivial, trivial, trivial⟩ ?_
    refine RunR.done (by kernel_rfl) ?_
    refine kseq_n ?_
    refine RunC.condp (s = ⟨#[46]⟩) (by kernel_rfl) (fun h3 => ?_) (fun h3 => ?_)
    · skip
      refine RunC.skip ?_
      refine kseq_n ?_
      refine RunC.env [0, 2, 3, 4] [(0, .string s), (2, .bool false), (3, .string s), (4, .bool (decide (s = ⟨#[46]⟩)))] (by kernel_rfl) ?_
      have hk4 : (s = ⟨#[46]⟩) := by exact h3
      refine RunC.enveq [(0, .string s), (2, .bool false), (3, .string s), (4, .bool true)] (by rw [decide_eq_true hk4]; try rfl) ?_
      refine RunC.cond (b := true) (by kernel_rfl) (fun _ => ?_) (fun h => by cases h)
      refine RunC.seq ?_
      refine RunC.region ?_
      refine RunR.sil hU [] 1 1 [0, 2] [(0, .string s), (2, .bool false)] ((True) ∧ True) rfl (by kernel_rfl) ⟨trivial, trivial⟩ ?_
      refine RunR.done (by kernel_rfl) ?_
      refine kseq_n ?_
      refine RunC.ret ?_
      refine kblock_r ?_
      refine kseq_r ?_
      refine kret_r [.bool false] [] [] ⟨rfl, trivial⟩ (by kernel_rfl) rfl ⟨(by first | rfl | (exact congrArg Value.bool (decide_eq_false (may_2 (by assumption))).symm)), (by first | rfl | (exact congrArg Value.bool (decide_eq_false (may_2 (by assumption))).symm))⟩
    · skip
      refine RunC.region ?_
      refine RunR.sil hU [] 2 2 [0, 2, 4] [(0, .string s), (2, .bool false), (4, .bool (decide (s = ⟨#[46, 46]⟩)))] ((True) ∧ (True) ∧ True) rfl (by kernel_rfl) ⟨trivial, trivial, trivial⟩ ?_
      refine RunR.done (by kernel_rfl) ?_
      refine kseq_n ?_
      refine RunC.condp (s = ⟨#[46, 46]⟩) (by kernel_rfl) (fun h5 => ?_) (fun h5 => ?_)
      · skip
        refine RunC.seq ?_
        refine RunC.region ?_
        refine RunR.sil hU [] 1 1 [0, 2] [(0, .string s), (2, .bool false)] ((True) ∧ True) rfl (by kernel_rfl) ⟨trivial, trivial⟩ ?_
        refine RunR.done (by kernel_rfl) ?_
        refine kseq_n ?_
        refine RunC.ret ?_
        refine kblock_r ?_
        refine kseq_r ?_
        refine kret_r [.bool false] [] [] ⟨rfl, trivial⟩ (by kernel_rfl) rfl ⟨(by first | rfl | (exact congrArg Value.bool (decide_eq_false (may_3 (by assumption))).symm)), (by first | rfl | (exact congrArg Value.bool (decide_eq_false (may_3 (by assumption))).symm))⟩
      · skip
        refine RunC.skip ?_
        refine kblock_n ?_
        refine kseq_n ?_
        refine RunC.seq ?_
        refine RunC.region ?_
        refine RunR.sil hU [] 4 4 [0, 2, 11] [(0, .string s), (2, .bool false), (11, .bool (decide (((s : ByteArray).size : Int) ≤ 255)))] ((True) ∧ (True) ∧ (True) ∧ (True) ∧ True) rfl (by kernel_rfl) ⟨trivial, trivial, trivial, trivial, trivial⟩ ?_
        refine RunR.env [0, 2, 11] [(0, .string s), (2, .bool false), (11, .bool (decide (((s : ByteArray).size : Int) ≤ 255)))] (by kernel_rfl) ?_
        by_cases h6 : ((s : ByteArray).size : Int) ≤ 255
        · skip
          refine RunR.enveq [(0, .string s), (2, .bool false), (11, .bool true)] (by rw [decide_eq_true h6]; try rfl) ?_
          refine RunR.sil hU [] 1 5 [2, 11, 12] [(2, .bool false), (11, .bool true), (12, .string s)] ((True) ∧ True) rfl (by kernel_rfl) ⟨trivial, trivial⟩ ?_
          refine RunR.step (dst := some 13) (op := .call { callee := .value (.func 43), args := #[.tmp 12, .const (.int .u8 0)], argTypes := #[9, 5] }) (by kernel_rfl) (Step.call 43 [.string s, .int .u8 0] (by kernel_rfl) (by kernel_rfl) [] [] [] (s_IndexByte_spec s 0) [] (by kernel_rfl) (Lend.nil _) ?_)
          rintro _ _ ⟨rfl, rfl⟩
          refine RunR.sil hU [] 3 9 [2] [(2, .bool (decide ((Lib.indexByte (s : ByteArray).data.toList (0 : Int).toNat.toUInt8) < 0)))] ((True) ∧ (True) ∧ (True) ∧ True) rfl (by kernel_rfl) ⟨trivial, trivial, trivial, trivial⟩ ?_
          refine RunR.done (by kernel_rfl) ?_
          refine kseq_n ?_
          refine RunC.ret ?_
          refine kret_r [.bool (decide ((Lib.indexByte (s : ByteArray).data.toList (0 : Int).toNat.toUInt8) < 0))] [] [] ⟨rfl, trivial⟩ (by kernel_rfl) rfl ⟨(by first | rfl | (exact congrArg Value.bool (decide_eq_decide.2 (may_4 (by assumption) (by assumption) (by assumption) (by assumption))))), (by first | rfl | (exact congrArg Value.bool (decide_eq_decide.2 (may_4 (by assumption) (by assumption) (by assumption) (by assumption)))))⟩
        · skip
          refine RunR.enveq [(0, .string s), (2, .bool false), (11, .bool false)] (by rw [decide_eq_false h6]; try rfl) ?_
          refine RunR.sil hU [] 5 9 [2] [(2, .bool false)] ((True) ∧ (True) ∧ True) rfl (by kernel_rfl) ⟨trivial, trivial, trivial⟩ ?_
          refine RunR.done (by kernel_rfl) ?_
          refine kseq_n ?_
          refine RunC.ret ?_
          refine kret_r [.bool false] [] [] ⟨rfl, trivial⟩ (by kernel_rfl) rfl ⟨(by first | rfl | (exact congrArg Value.bool (decide_eq_false (may_5 (by assumption))).symm)), (by first | rfl | (exact congrArg Value.bool (decide_eq_false (may_5 (by assumption))).symm))⟩

theorem pr_may_spec (s : ByteArray) (hsz : (s : ByteArray).size ≤ 140737488351232) :
    CallsS Tryd.prog 34 [.string s] [] (fun r D => r = .bool (decide (mayP (sb s))) ∧ D = []) := by
  refine CallsS.enter hU Tryd.f34 _ [.tmp 2] 29 Tryd.func34 rfl (by decide) rfl rfl (by kernel_rfl) fun w0 W => ?_
  refine RunC.seq ?_
  refine RunC.region ?_
  refine RunR.sil hU [] 1 1 [0, 2] [(0, .string s), (2, .bool false)] ((True) ∧ True) rfl (by kernel_rfl) ⟨trivial, trivial⟩ ?_
  refine RunR.done (by kernel_rfl) ?_
  refine kseq_n ?_
  refine RunC.seq ?_
  refine RunC.seq ?_
  refine RunC.region ?_
  refine RunR.sil hU [] 3 3 [0, 2, 6] [(0, .string s), (2, .bool false), (6, .bool (decide (s = ⟨#[]⟩)))] ((True) ∧ (True) ∧ (True) ∧ True) rfl (by kernel_rfl) ⟨trivial, trivial, trivial, trivial⟩ ?_
  refine RunR.env [0, 2, 6] [(0, .string s), (2, .bool false), (6, .bool (decide (s = ⟨#[]⟩)))] (by kernel_rfl) ?_
  by_cases h1 : s = ⟨#[]⟩
  · skip
    refine RunR.enveq [(0, .string s), (2, .bool false), (6, .bool true)] (by rw [decide_eq_true h1]; try rfl) ?_
    refine RunR.sil hU [] 12 15 [0, 2, 18] [(0, .string s), (2, .bool false), (18, .bool true)] ((True) ∧ (True) ∧ (True) ∧ (True) ∧ (True) ∧ True) rfl (by kernel_rfl) ⟨trivial, trivial, trivial, trivial, trivial, trivial⟩ ?_
    refine RunR.done (by kernel_rfl) ?_
    refine kseq_n ?_
    refine RunC.cond (b := true) (by kernel_rfl) (fun _ => ?_) (fun h => by cases h)
    refine RunC.seq ?_
    refine RunC.region ?_
    refine RunR.sil hU [] 1 1 [0, 2] [(0, .string s), (2, .bool false)] ((True) ∧ True) rfl (by kernel_rfl) ⟨trivial, trivial⟩ ?_
    refine RunR.done (by kernel_rfl) ?_
    refine kseq_n ?_
    refine RunC.ret ?_
    refine kseq_r ?_
    refine kret_r [.bool false] [] [] ⟨rfl, trivial⟩ (by kernel_rfl) rfl ⟨(by first | rfl | (exact congrArg Value.bool (decide_eq_false (may_1 (by assumption))).symm)), (by first | rfl | (exact congrArg Value.bool (decide_eq_false (may_1 (by assumption))).symm))⟩
  · skip
    refine RunR.enveq [(0, .string s), (2, .bool false), (6, .bool false)] (by rw [decide_eq_false h1]; try rfl) ?_
    refine RunR.sil hU [] 4 7 [0, 2, 10] [(0, .string s), (2, .bool false), (10, .bool (decide (s = ⟨#[46]⟩)))] ((True) ∧ (True) ∧ (True) ∧ (True) ∧ True) rfl (by kernel_rfl) ⟨trivial, trivial, trivial, trivial, trivial⟩ ?_
    refine RunR.env [0, 2, 10] [(0, .string s), (2, .bool false), (10, .bool (decide (s = ⟨#[46]⟩)))] (by kernel_rfl) ?_
    by_cases h2 : s = ⟨#[46]⟩
    · skip
      refine RunR.enveq [(0, .string s), (2, .bool false), (10, .bool true)] (by rw [decide_eq_true h2]; try rfl) ?_
      refine RunR.sil hU [] 8 15 [0, 2, 18] [(0, .string s), (2, .bool false), (18, .bool true)] ((True) ∧ (True) ∧ (True) ∧ True) rfl (by kernel_rfl) ⟨trivial, trivial, trivial, trivial⟩ ?_
      refine RunR.done (by kernel_rfl) ?_
      refine kseq_n ?_
      refine RunC.cond (b := true) (by kernel_rfl) (fun _ => ?_) (fun h => by cases h)
      refine RunC.seq ?_
      refine RunC.region ?_
      refine RunR.sil hU [] 1 1 [0, 2] [(0, .string s), (2, .bool false)] ((True) ∧ True) rfl (by kernel_rfl) ⟨trivial, trivial⟩ ?_
      refine RunR.done (by kernel_rfl) ?_
      refine kseq_n ?_
      refine RunC.ret ?_
      refine kseq_r ?_
      refine kret_r [.bool false] [] [] ⟨rfl, trivial⟩ (by kernel_rfl) rfl ⟨(by first | rfl | (exact congrArg Value.bool (decide_eq_false (may_2 (by assumption))).symm)), (by first | rfl | (exact congrArg Value.bool (decide_eq_false (may_2 (by assumption))).symm))⟩
    · skip
      refine RunR.enveq [(0, .string s), (2, .bool false), (10, .bool false)] (by rw [decide_eq_false h2]; try rfl) ?_
      refine RunR.sil hU [] 4 11 [0, 2, 14] [(0, .string s), (2, .bool false), (14, .bool (decide (s = ⟨#[46, 46]⟩)))] ((True) ∧ (True) ∧ (True) ∧ (True) ∧ True) rfl (by kernel_rfl) ⟨trivial, trivial, trivial, trivial, trivial⟩ ?_
      refine RunR.env [0, 2, 14] [(0, .string s), (2, .bool false), (14, .bool (decide (s = ⟨#[46, 46]⟩)))] (by kernel_rfl) ?_
      by_cases h3 : s = ⟨#[46, 46]⟩
      · skip
        refine RunR.enveq [(0, .string s), (2, .bool false), (14, .bool true)] (by rw [decide_eq_true h3]; try rfl) ?_
        refine RunR.sil hU [] 4 15 [0, 2, 18] [(0, .string s), (2, .bool false), (18, .bool true)] ((True) ∧ True) rfl (by kernel_rfl) ⟨trivial, trivial⟩ ?_
        refine RunR.done (by kernel_rfl) ?_
        refine kseq_n ?_
        refine RunC.cond (b := true) (by kernel_rfl) (fun _ => ?_) (fun h => by cases h)
        refine RunC.seq ?_
        refine RunC.region ?_
        refine RunR.sil hU [] 1 1 [0, 2] [(0, .string s), (2, .bool false)] ((True) ∧ True) rfl (by kernel_rfl) ⟨trivial, trivial⟩ ?_
        refine RunR.done (by kernel_rfl) ?_
        refine kseq_n ?_
        refine RunC.ret ?_
        refine kseq_r ?_
        refine kret_r [.bool false] [] [] ⟨rfl, trivial⟩ (by kernel_rfl) rfl ⟨(by first | rfl | (exact congrArg Value.bool (decide_eq_false (may_3 (by assumption))).symm)), (by first | rfl | (exact congrArg Value.bool (decide_eq_false (may_3 (by assumption))).symm))⟩
      · skip
        refine RunR.enveq [(0, .string s), (2, .bool false), (14, .bool false)] (by rw [decide_eq_false h3]; try rfl) ?_
        refine RunR.sil hU [] 4 15 [0, 2, 18] [(0, .string s), (2, .bool false), (18, .bool (decide (((s : ByteArray).size : Int) > 255)))] ((True) ∧ (True) ∧ (True) ∧ (True) ∧ True) rfl (by kernel_rfl) ⟨trivial, trivial, trivial, trivial, trivial⟩ ?_
        refine RunR.done (by kernel_rfl) ?_
        refine kseq_n ?_
        refine RunC.condp (((s : ByteArray).size : Int) > 255) (by kernel_rfl) (fun h4 => ?_) (fun h4 => ?_)
        · skip
          refine RunC.seq ?_
          refine RunC.region ?_
          refine RunR.sil hU [] 1 1 [0, 2] [(0, .string s), (2, .bool false)] ((True) ∧ True) rfl (by kernel_rfl) ⟨trivial, trivial⟩ ?_
          refine RunR.done (by kernel_rfl) ?_
          refine kseq_n ?_
          refine RunC.ret ?_
          refine kseq_r ?_
          refine kret_r [.bool false] [] [] ⟨rfl, trivial⟩ (by kernel_rfl) rfl ⟨(by first | rfl | (exact congrArg Value.bool (decide_eq_false (may_5 (by omega))).symm)), (by first | rfl | (exact congrArg Value.bool (decide_eq_false (may_5 (by omega))).symm))⟩
        · skip
          refine RunC.skip ?_
          refine kseq_n ?_
          refine RunC.seq ?_
          refine RunC.seq ?_
          refine RunC.region ?_
          refine RunR.sil hU [] 1 1 [0, 2, 3] [(0, .string s), (2, .bool false), (3, .int .i64 0)] ((True) ∧ True) rfl (by kernel_rfl) ⟨trivial, trivial⟩ ?_
          refine RunR.done (by kernel_rfl) ?_
          refine kseq_n ?_
          refine RunC.block ?_
          refine RunC.env [0, 3] [(0, .string s), (3, .int .i64 0)] (by kernel_rfl) ?_
          refine RunC.only [] [] (by kernel_rfl) ?_
          refine RunC.loop (σ := Nat) (fun n_ t_ D_ => ∃ (i : Int), (0 ≤ i) ∧ (i ≤ ((s : ByteArray).size : Int)) ∧ (NoZ (sb s) i.toNat) ∧ n_ = (((s : ByteArray).size - i).toNat : Nat) ∧ t_ = [(0, .string s), (3, .int .i64 i)] ∧ D_ = []) id _ ⟨0, (by first | assumption | omega | (simp only [List.length_append, List.length_cons, List.length_nil, List.length_set, List.length_replicate, List.length_take, List.length_drop]; omega) | (simp only [fits] at *; omega) | (simp only [List.length_append, List.length_cons, List.length_nil, List.length_set, List.length_replicate, List.length_take, List.length_drop] at *; omega) | (simp; done) | decide), (by first | assumption | omega | (simp only [List.length_append, List.length_cons, List.length_nil, List.length_set, List.length_replicate, List.length_take, List.length_drop]; omega) | (simp only [fits] at *; omega) | (simp only [List.length_append, List.length_cons, List.length_nil, List.length_set, List.length_replicate, List.length_take, List.length_drop] at *; omega) | (simp; done) | decide), (by exact NoZ.zero _), rfl, rfl, rfl⟩ ?_
          rintro n_ _ _ ⟨i, hi, his, hno, rfl, rfl, rfl⟩
          refine RunC.seq ?_
          refine RunC.seq ?_
          refine RunC.region ?_
          refine RunR.sil hU [] 4 4 [0, 3, 22] [(0, .string s), (3, .int .i64 i), (22, .bool (decide (i < ((s : ByteArray).size : Int))))] ((True) ∧ (True) ∧ (True) ∧ (True) ∧ True) rfl (by kernel_rfl) ⟨trivial, trivial, trivial, trivial, trivial⟩ ?_
          refine RunR.done (by kernel_rfl) ?_
          refine kseq_n ?_
          refine RunC.condp (i < ((s : ByteArray).size : Int)) (by kernel_rfl) (fun h5 => ?_) (fun h5 => ?_)
          · skip
            refine RunC.skip ?_
            refine kseq_n ?_
            refine RunC.seq ?_
            refine RunC.block ?_
            refine RunC.seq ?_
            refine RunC.region ?_
            have hb6 : 0 ≤ (sb s).getD (i).toNat 0 ∧ (sb s).getD (i).toNat 0 < 256 := (In.sb _).at_ _
            refine RunR.sil hU [] 4 4 [0, 3, 28] [(0, .string s), (3, .int .i64 i), (28, .bool (decide (((sb s).getD (i).toNat 0) = 0)))] ((True) ∧ (True) ∧ (0 ≤ i ∧ i < (s : ByteArray).size) ∧ (True) ∧ True) rfl (by kernel_rfl) ⟨trivial, trivial, (by omega), trivial, trivial⟩ ?_
            refine RunR.done (by kernel_rfl) ?_
            refine kseq_n ?_
            refine RunC.condp (((sb s).getD (i).toNat 0) = 0) (by kernel_rfl) (fun h7 => ?_) (fun h7 => ?_)
            · skip
              refine RunC.seq ?_
              refine RunC.region ?_
              refine RunR.sil hU [] 1 1 [0, 2, 3] [(0, .string s), (2, .bool false), (3, .int .i64 i)] ((True) ∧ True) rfl (by kernel_rfl) ⟨trivial, trivial⟩ ?_
              refine RunR.done (by kernel_rfl) ?_
              refine kseq_n ?_
              refine RunC.ret ?_
              refine kblock_r ?_
              refine kseq_r ?_
              refine kloop_r ?_
              refine kblock_r ?_
              refine kseq_r ?_
              refine kret_r [.bool false] [] [] ⟨rfl, trivial⟩ (by kernel_rfl) rfl ⟨(by first | rfl | (exact congrArg Value.bool (decide_eq_false (may_7 (by assumption) (by rw [Go.Proofs.YtjhinpmnpdgadaaDoor.SL.sb_len]; omega))).symm)), (by first | rfl | (exact congrArg Value.bool (decide_eq_false (may_7 (by assumption) (by rw [Go.Proofs.YtjhinpmnpdgadaaDoor.SL.sb_len]; omega))).symm))⟩
            · skip
              refine RunC.skip ?_
              refine kblock_n ?_
              refine kseq_n ?_
              refine RunC.region ?_
              refine RunR.sil hU [1] 3 3 [0, 3] [(0, .string s), (3, .int .i64 (i + 1))] ((True) ∧ (-9223372036854775808 ≤ (i + 1) ∧ (i + 1) < 9223372036854775808) ∧ (True) ∧ True) rfl (by kernel_rfl) ⟨trivial, (by omega), trivial, trivial⟩ ?_
              refine RunR.done (by kernel_rfl) ?_
              refine kloop_n _ [0, 3] [] [(0, .string s), (3, .int .i64 (i + 1))] [] (by kernel_rfl) (by kernel_rfl) ?_ ⟨(i + 1), (by first | assumption | omega | (simp only [List.length_append, List.length_cons, List.length_nil, List.length_set, List.length_replicate, List.length_take, List.length_drop]; omega) | (simp only [fits] at *; omega) | (simp only [List.length_append, List.length_cons, List.length_nil, List.length_set, List.length_replicate, List.length_take, List.length_drop] at *; omega) | (simp; done) | decide), (by first | assumption | omega | (simp only [List.length_append, List.length_cons, List.length_nil, List.length_set, List.length_replicate, List.length_take, List.length_drop]; omega) | (simp only [fits] at *; omega) | (simp only [List.length_append, List.length_cons, List.length_nil, List.length_set, List.length_replicate, List.length_take, List.length_drop] at *; omega) | (simp; done) | decide), (by rw [show (i + 1).toNat = i.toNat + 1 by omega]; exact hno.succ (by assumption)), rfl, (by first | rfl | simp only [List.length_set]), (by first | rfl | simp only [List.length_set])⟩
              show (((s : ByteArray).size - (i + 1)).toNat : Nat) < (((s : ByteArray).size - i).toNat : Nat)
              omega
          · skip
            refine RunC.exit ?_
            refine kseq_e ?_
            refine kloop_e ?_
            refine kblock_e ?_
            refine kseq_n ?_
            refine RunC.seq ?_
            refine RunC.region ?_
            refine RunR.sil hU [] 1 1 [2] [(2, .bool true)] ((True) ∧ True) rfl (by kernel_rfl) ⟨trivial, trivial⟩ ?_
            refine RunR.done (by kernel_rfl) ?_
            refine kseq_n ?_
            refine RunC.ret ?_
            refine kret_r [.bool true] [] [] ⟨rfl, trivial⟩ (by kernel_rfl) rfl ⟨(by first | rfl | (exact congrArg Value.bool (decide_eq_true (may_6 (by assumption) (by assumption) (by assumption) (by assumption) hno (by omega))).symm)), (by first | rfl | (exact congrArg Value.bool (decide_eq_true (may_6 (by assumption) (by assumption) (by assumption) (by assumption) hno (by omega))).symm))⟩

theorem sl_HasPrefix_spec (s : ByteArray) (t : ByteArray) (hsz : (s : ByteArray).size ≤ 140737488351232) (htz : (t : ByteArray).size ≤ 140737488351232) :
    CallsS Tryd.prog 44 [.string s, .string t] [] (fun r D => r = .bool (decide (ByteArray.extract s 0 (t : ByteArray).size = t)) ∧ D = []) := by
  refine CallsS.enter hU Tryd.f44 _ [.tmp 4] 18 Tryd.func44 rfl (by decide) rfl rfl (by kernel_rfl) fun w0 W => ?_
  refine RunC.seq ?_
  refine RunC.region ?_
  refine RunR.sil hU [] 1 1 [0, 1, 4] [(0, .string s), (1, .string t), (4, .bool false)] ((True) ∧ True) rfl (by kernel_rfl) ⟨trivial, trivial⟩ ?_
  refine RunR.done (by kernel_rfl) ?_
  refine kseq_n ?_
  refine RunC.seq ?_
  refine RunC.region ?_
  refine RunR.sil hU [] 6 6 [0, 1, 4, 10] [(0, .string s), (1, .string t), (4, .bool false), (10, .bool (decide (((s : ByteArray).size : Int) ≥ ((t : ByteArray).size : Int))))] ((True) ∧ (True) ∧ (True) ∧ (True) ∧ (True) ∧ (True) ∧ True) rfl (by kernel_rfl) ⟨trivial, trivial, trivial, trivial, trivial, trivial, trivial⟩ ?_
  refine RunR.env [0, 1, 4, 10] [(0, .string s), (1, .string t), (4, .bool false), (10, .bool (decide (((s : ByteArray).size : Int) ≥ ((t : ByteArray).size : Int))))] (by kernel_rfl) ?_
  by_cases h1 : ((s : ByteArray).size : Int) ≥ ((t : ByteArray).size : Int)
  · skip
    refine RunR.enveq [(0, .string s), (1, .string t), (4, .bool false), (10, .bool true)] (by rw [decide_eq_true h1]; try rfl) ?_
    refine RunR.sil hU [] 8 14 [4] [(4, .bool (decide ((ByteArray.extract s 0 ((((t : ByteArray).size : Int)).toNat)) = t)))] ((True) ∧ (True) ∧ (True) ∧ (0 ≤ ((t : ByteArray).size : Int) ∧ ((t : ByteArray).size : Int) ≤ (s : ByteArray).size) ∧ (True) ∧ (True) ∧ (True) ∧ (True) ∧ True) rfl (by kernel_rfl) ⟨trivial, trivial, trivial, (by omega), trivial, trivial, trivial, trivial, trivial⟩ ?_
    refine RunR.done (by kernel_rfl) ?_
    refine kseq_n ?_
    refine RunC.ret ?_
    refine kret_r [.bool (decide ((ByteArray.extract s 0 ((((t : ByteArray).size : Int)).toNat)) = t))] [] [] ⟨rfl, trivial⟩ (by kernel_rfl) rfl ⟨rfl, rfl⟩
  · skip
    refine RunR.enveq [(0, .string s), (1, .string t), (4, .bool false), (10, .bool false)] (by rw [decide_eq_false h1]; try rfl) ?_
    refine RunR.sil hU [] 8 14 [4] [(4, .bool false)] ((True) ∧ (True) ∧ True) rfl (by kernel_rfl) ⟨trivial, trivial, trivial⟩ ?_
    refine RunR.done (by kernel_rfl) ?_
    refine kseq_n ?_
    refine RunC.ret ?_
    refine kret_r [.bool false] [] [] ⟨rfl, trivial⟩ (by kernel_rfl) rfl ⟨(by first | rfl | (exact congrArg Value.bool (decide_eq_false (ex_short (by omega))).symm)), (by first | rfl | (exact congrArg Value.bool (decide_eq_false (ex_short (by omega))).symm))⟩

theorem s_HasPrefix_spec (s : ByteArray) (t : ByteArray) (hsz : (s : ByteArray).size ≤ 140737488351232) (htz : (t : ByteArray).size ≤ 140737488351232) :
    CallsS Tryd.prog 29 [.string s, .string t] [] (fun r D => r = .bool (decide (ByteArray.extract s 0 (t : ByteArray).size = t)) ∧ D = []) := by
  refine CallsS.enter hU Tryd.f29 _ [.tmp 4] 8 Tryd.func29 rfl (by decide) rfl rfl (by kernel_rfl) fun w0 W => ?_
  refine RunC.seq ?_
  refine RunC.region ?_
  refine RunR.sil hU [] 1 1 [0, 1, 4] [(0, .string s), (1, .string t), (4, .bool false)] ((True) ∧ True) rfl (by kernel_rfl) ⟨trivial, trivial⟩ ?_
  refine RunR.done (by kernel_rfl) ?_
  refine kseq_n ?_
  refine RunC.seq ?_
  refine RunC.region ?_
  refine RunR.sil hU [] 2 2 [4, 5, 6] [(4, .bool false), (5, .string s), (6, .string t)] ((True) ∧ (True) ∧ True) rfl (by kernel_rfl) ⟨trivial, trivial, trivial⟩ ?_
  refine RunR.step (dst := some 7) (op := .call { callee := .value (.func 44), args := #[.tmp 5, .tmp 6], argTypes := #[9, 9] }) (by kernel_rfl) (Step.call 44 [.string s, .string t] (by kernel_rfl) (by kernel_rfl) [] [] [] (sl_HasPrefix_spec s t (by first | assumption | omega | (simp only [List.length_append, List.length_cons, List.length_nil, List.length_set, List.length_replicate, List.length_take, List.length_drop]; omega) | (simp only [fits] at *; omega) | (simp only [List.length_append, List.length_cons, List.length_nil, List.length_set, List.length_replicate, List.length_take, List.length_drop] at *; omega) | (simp; done) | decide) (by first | assumption | omega | (simp only [List.length_append, List.length_cons, List.length_nil, List.length_set, List.length_replicate, List.length_take, List.length_drop]; omega) | (simp only [fits] at *; omega) | (simp only [List.length_append, List.length_cons, List.length_nil, List.length_set, List.length_replicate, List.length_take, List.length_drop] at *; omega) | (simp; done) | decide)) [] (by kernel_rfl) (Lend.nil _) ?_)
  rintro _ _ ⟨rfl, rfl⟩
  refine RunR.sil hU [] 1 4 [4] [(4, .bool (decide (ByteArray.extract s 0 (t : ByteArray).size = t)))] ((True) ∧ True) rfl (by kernel_rfl) ⟨trivial, trivial⟩ ?_
  refine RunR.done (by kernel_rfl) ?_
  refine kseq_n ?_
  refine RunC.ret ?_
  refine kret_r [.bool (decide (ByteArray.extract s 0 (t : ByteArray).size = t))] [] [] ⟨rfl, trivial⟩ (by kernel_rfl) rfl ⟨rfl, rfl⟩
end Go.Proofs.YtjhinpmnpdgadaaDoor.X1
