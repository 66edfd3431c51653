/- The law PathLoose returns true whatever it is handed: its walk, on the contracts of what it calls. -/
import Derived.Test.YtjhinpmnpdgadaaDoorZPure
import Derived.Test.YtjhinpmnpdgadaaDoorProg
import Derived.Test.YtjhinpmnpdgadaaDoorX1
import Derived.Test.YtjhinpmnpdgadaaDoorX2
import Derived.Test.YtjhinpmnpdgadaaDoorX3
import Derived.Test.YtjhinpmnpdgadaaDoorX4
import Derived.Test.YtjhinpmnpdgadaaDoorX5
import Derived.Test.YtjhinpmnpdgadaaDoorX6
import Derived.Test.YtjhinpmnpdgadaaDoorX7
import Derived.Test.YtjhinpmnpdgadaaDoorX8
import Derived.Test.YtjhinpmnpdgadaaDoorX9
namespace Go.Proofs.YtjhinpmnpdgadaaDoor.LPathLoose
open Go Go.Proofs.YtjhinpmnpdgadaaDoor.SL Go.Proofs.YtjhinpmnpdgadaaDoor.SL.W Go.Proofs.YtjhinpmnpdgadaaDoor.SL.Z Go.Proofs.YtjhinpmnpdgadaaDoor.X1 Go.Proofs.YtjhinpmnpdgadaaDoor.X2 Go.Proofs.YtjhinpmnpdgadaaDoor.X3 Go.Proofs.YtjhinpmnpdgadaaDoor.X4 Go.Proofs.YtjhinpmnpdgadaaDoor.X5 Go.Proofs.YtjhinpmnpdgadaaDoor.X6 Go.Proofs.YtjhinpmnpdgadaaDoor.X7 Go.Proofs.YtjhinpmnpdgadaaDoor.X8 Go.Proofs.YtjhinpmnpdgadaaDoor.X9
set_option linter.unusedVariables false
set_option linter.unusedSimpArgs false
set_option maxRecDepth 100000
set_option maxHeartbeats 40000000
def U : Tab where
  und := [(3, .int .i64), (5, .int .u8), (9, .string), (33, .slice 9), (34, .int .i64)]
  fld := []
  sz := [(3, 1), (5, 1), (9, 1), (33, 1), (34, 1)]
  ti := [(3, (1, 8, .int .i64 0)), (5, (1, 1, .int .u8 0)), (9, (1, 16, .string ⟨#[]⟩)), (33, (1, 24, .slice none 0 0)), (34, (1, 8, .int .i64 0))]
  bld := []

theorem hU : U.OK Tryd.prog where
  und := by
    intro p hp
    simp only [U, List.mem_cons, List.not_mem_nil, or_false] at hp
    rcases hp with rfl | rfl | rfl | rfl | rfl
    · exact Tryd.underlying3
    · exact Tryd.underlying5
    · exact Tryd.underlying9
    · exact Tryd.underlying33
    · exact Tryd.underlying34
  fld := by
    intro p hp; cases hp
  sz := by
    intro p hp
    simp only [U, List.mem_cons, List.not_mem_nil, or_false] at hp
    rcases hp with rfl | rfl | rfl | rfl | rfl
    · exact ⟨Tryd.prog.types[3]!, by kernel_rfl, by kernel_rfl⟩
    · exact ⟨Tryd.prog.types[5]!, by kernel_rfl, by kernel_rfl⟩
    · exact ⟨Tryd.prog.types[9]!, by kernel_rfl, by kernel_rfl⟩
    · exact ⟨Tryd.prog.types[33]!, by kernel_rfl, by kernel_rfl⟩
    · exact ⟨Tryd.prog.types[34]!, by kernel_rfl, by kernel_rfl⟩
  ti := by
    intro p hp
    simp only [U, List.mem_cons, List.not_mem_nil, or_false] at hp
    rcases hp with rfl | rfl | rfl | rfl | rfl
    · exact ⟨Tryd.prog.types[3]!, by kernel_rfl, by kernel_rfl, by kernel_rfl, by kernel_rfl⟩
    · exact ⟨Tryd.prog.types[5]!, by kernel_rfl, by kernel_rfl, by kernel_rfl, by kernel_rfl⟩
    · exact ⟨Tryd.prog.types[9]!, by kernel_rfl, by kernel_rfl, by kernel_rfl, by kernel_rfl⟩
    · exact ⟨Tryd.prog.types[33]!, by kernel_rfl, by kernel_rfl, by kernel_rfl, by kernel_rfl⟩
    · exact ⟨Tryd.prog.types[34]!, by kernel_rfl, by kernel_rfl, by kernel_rfl, by kernel_rfl⟩
  bld := by
    intro p hp; cases hp
  mixed := by kernel_rfl

theorem l20_Loose_spec (a : ByteArray) (b : ByteArray) (n : Int) (ha : (a : ByteArray).size ≤ 140737488355328) (hb : (b : ByteArray).size ≤ 140737488355328) (hn : fits .u8 n) :
    CallsS Tryd.prog 10 [.string a, .string b, .int .u8 n] [] (fun r D => r = .bool true ∧ D = []) := by
  refine CallsS.enter hU Tryd.f10 _ [.tmp 6] 78 Tryd.func10 rfl (by decide) rfl rfl (by kernel_rfl) fun w0 W => ?_
  have hn2 := hn; simp only [fits] at hn2
  refine RunC.seq ?_
  refine RunC.region ?_
  refine RunR.sil hU [] 1 1 [0, 1, 2, 6] [(0, .string a), (1, .string b), (2, .int .u8 n), (6, .bool false)] ((True) ∧ True) rfl (by kernel_rfl) ⟨trivial, trivial⟩ ?_
  refine RunR.done (by kernel_rfl) ?_
  refine kseq_n ?_
  refine RunC.seq ?_
  refine RunC.seq ?_
  refine RunC.region ?_
  refine RunR.step (dst := some 14) (op := .call { callee := .value (.func 17), args := #[], argTypes := #[] }) (by kernel_rfl) (Step.call 17 [] (by kernel_rfl) (by kernel_rfl) [] [] [] (l20_awake_spec) [] (by kernel_rfl) (Lend.nil _) ?_)
  rintro _ _ ⟨rfl, rfl⟩
  refine RunR.sil hU [] 1 2 [0, 1, 2, 6, 15] [(0, .string a), (1, .string b), (2, .int .u8 n), (6, .bool false), (15, .bool false)] ((True) ∧ True) rfl (by kernel_rfl) ⟨trivial, trivial⟩ ?_
  refine RunR.done (by kernel_rfl) ?_
  refine kseq_n ?_
  refine RunC.cond (b := false) (by kernel_rfl) (fun h => by cases h) (fun _ => ?_)
  refine RunC.skip ?_
  refine kseq_n ?_
  refine RunC.seq ?_
  refine RunC.seq ?_
  refine RunC.region ?_
  refine RunR.sil hU [] 4 4 [0, 1, 2, 6, 19] [(0, .string a), (1, .string b), (2, .int .u8 n), (6, .bool false), (19, .bool (decide (((a : ByteArray).size : Int) > 3000)))] ((True) ∧ (True) ∧ (True) ∧ (True) ∧ True) rfl (by kernel_rfl) ⟨trivial, trivial, trivial, trivial, trivial⟩ ?_
  refine RunR.env [0, 1, 2, 6, 19] [(0, .string a), (1, .string b), (2, .int .u8 n), (6, .bool false), (19, .bool (decide (((a : ByteArray).size : Int) > 3000)))] (by kernel_rfl) ?_
  by_cases h1 : ((a : ByteArray).size : Int) > 3000
  · skip
    refine RunR.enveq [(0, .string a), (1, .string b), (2, .int .u8 n), (6, .bool false), (19, .bool true)] (by rw [decide_eq_true h1]; try rfl) ?_
    refine RunR.sil hU [] 4 8 [0, 1, 2, 6, 23] [(0, .string a), (1, .string b), (2, .int .u8 n), (6, .bool false), (23, .bool true)] ((True) ∧ True) rfl (by kernel_rfl) ⟨trivial, trivial⟩ ?_
    refine RunR.done (by kernel_rfl) ?_
    refine kseq_n ?_
    refine RunC.cond (b := true) (by kernel_rfl) (fun _ => ?_) (fun h => by cases h)
    refine RunC.seq ?_
    refine RunC.region ?_
    refine RunR.sil hU [] 1 1 [0, 1, 2, 6] [(0, .string a), (1, .string b), (2, .int .u8 n), (6, .bool true)] ((True) ∧ True) rfl (by kernel_rfl) ⟨trivial, trivial⟩ ?_
    refine RunR.done (by kernel_rfl) ?_
    refine kseq_n ?_
    refine RunC.ret ?_
    refine kseq_r ?_
    refine kret_r [.bool true] [] [] ⟨rfl, trivial⟩ (by kernel_rfl) rfl ⟨rfl, rfl⟩
  · skip
    refine RunR.enveq [(0, .string a), (1, .string b), (2, .int .u8 n), (6, .bool false), (19, .bool false)] (by rw [decide_eq_false h1]; try rfl) ?_
    refine RunR.sil hU [] 4 8 [0, 1, 2, 6, 23] [(0, .string a), (1, .string b), (2, .int .u8 n), (6, .bool false), (23, .bool (decide (((b : ByteArray).size : Int) > 3000)))] ((True) ∧ (True) ∧ (True) ∧ (True) ∧ True) rfl (by kernel_rfl) ⟨trivial, trivial, trivial, trivial, trivial⟩ ?_
    refine RunR.done (by kernel_rfl) ?_
    refine kseq_n ?_
    refine RunC.condp (((b : ByteArray).size : Int) > 3000) (by kernel_rfl) (fun h2 => ?_) (fun h2 => ?_)
    · skip
      refine RunC.seq ?_
      refine RunC.region ?_
      refine RunR.sil hU [] 1 1 [0, 1, 2, 6] [(0, .string a), (1, .string b), (2, .int .u8 n), (6, .bool true)] ((True) ∧ True) rfl (by kernel_rfl) ⟨trivial, trivial⟩ ?_
      refine RunR.done (by kernel_rfl) ?_
      refine kseq_n ?_
      refine RunC.ret ?_
      refine kseq_r ?_
      refine kret_r [.bool true] [] [] ⟨rfl, trivial⟩ (by kernel_rfl) rfl ⟨rfl, rfl⟩
    · skip
      refine RunC.skip ?_
      refine kseq_n ?_
      refine RunC.seq ?_
      refine RunC.region ?_
      refine RunR.sil hU [] 1 1 [0, 1, 2, 6, 25] [(0, .string a), (1, .string b), (2, .int .u8 n), (6, .bool false), (25, .string a)] ((True) ∧ True) rfl (by kernel_rfl) ⟨trivial, trivial⟩ ?_
      refine RunR.step (dst := some 26) (op := .call { callee := .value (.func 19), args := #[.tmp 25], argTypes := #[9] }) (by kernel_rfl) (Step.call 19 [.string a] (by kernel_rfl) (by kernel_rfl) [] [] [] (pr_Parts_spec a (by have h6_ := mids_le (n % 4).toNat; simp only [MIDS] at h6_; (try simp only [app_size]); omega)) [] (by kernel_rfl) (Lend.nil _) ?_)
      rintro _ _ ⟨A93, c94, zs5, e6, rfl, rfl, hp7, hp8, hp9⟩
      have hq10 := PartsR.len hp7
      refine RunR.sil hU [] 5 7 [0, 1, 2, 6, 7, 8] [(0, .string a), (1, .string b), (2, .int .u8 n), (6, .bool false), (7, .slice A93 zs5.length c94), (8, .int .i64 e6)] ((True) ∧ (True) ∧ (True) ∧ (True) ∧ (True) ∧ True) rfl (by kernel_rfl) ⟨trivial, trivial, trivial, trivial, trivial, trivial⟩ ?_
      refine RunR.done (by kernel_rfl) ?_
      refine kseq_n ?_
      refine RunC.seq ?_
      refine RunC.region ?_
      refine RunR.sil hU [] 1 1 [0, 1, 2, 6, 7, 8, 30] [(0, .string a), (1, .string b), (2, .int .u8 n), (6, .bool false), (7, .slice A93 zs5.length c94), (8, .int .i64 e6), (30, .string b)] ((True) ∧ True) rfl (by kernel_rfl) ⟨trivial, trivial⟩ ?_
      refine RunR.step (dst := some 31) (op := .call { callee := .value (.func 19), args := #[.tmp 30], argTypes := #[9] }) (by kernel_rfl) (Step.call 19 [.string b] (by kernel_rfl) (by kernel_rfl) [] [] [row 9 1 (.slice A93 zs5.length c94) zs5.length (strV zs5)] (pr_Parts_spec b (by have h6_ := mids_le (n % 4).toNat; simp only [MIDS] at h6_; (try simp only [app_size]); omega)) [] (by kernel_rfl) (Lend.nil _) ?_)
      rintro _ _ ⟨A911, c912, zs13, e14, rfl, rfl, hp15, hp16, hp17⟩
      have hq18 := PartsR.len hp15
      refine RunR.sil hU [] 5 7 [0, 1, 2, 6, 7, 8, 9, 10] [(0, .string a), (1, .string b), (2, .int .u8 n), (6, .bool false), (7, .slice A93 zs5.length c94), (8, .int .i64 e6), (9, .slice A911 zs13.length c912), (10, .int .i64 e14)] ((True) ∧ (True) ∧ (True) ∧ (True) ∧ (True) ∧ True) rfl (by kernel_rfl) ⟨trivial, trivial, trivial, trivial, trivial, trivial⟩ ?_
      refine RunR.done (by kernel_rfl) ?_
      refine kseq_n ?_
      refine RunC.seq ?_
      refine RunC.seq ?_
      refine RunC.region ?_
      refine RunR.sil hU [] 3 3 [0, 1, 2, 6, 7, 9, 10, 36] [(0, .string a), (1, .string b), (2, .int .u8 n), (6, .bool false), (7, .slice A93 zs5.length c94), (9, .slice A911 zs13.length c912), (10, .int .i64 e14), (36, .bool (!decide (e6 = 0)))] ((True) ∧ (True) ∧ (True) ∧ True) rfl (by kernel_rfl) ⟨trivial, trivial, trivial, trivial⟩ ?_
      refine RunR.env [0, 1, 2, 6, 7, 9, 10, 36] [(0, .string a), (1, .string b), (2, .int .u8 n), (6, .bool false), (7, .slice A93 zs5.length c94), (9, .slice A911 zs13.length c912), (10, .int .i64 e14), (36, .bool (!decide (e6 = 0)))] (by kernel_rfl) ?_
      by_cases h19 : e6 = 0
      · skip
        refine RunR.enveq [(0, .string a), (1, .string b), (2, .int .u8 n), (6, .bool false), (7, .slice A93 zs5.length c94), (9, .slice A911 zs13.length c912), (10, .int .i64 e14), (36, .bool false)] (by rw [decide_eq_true h19]; try rfl) ?_
        refine RunR.sil hU [] 4 7 [0, 1, 2, 6, 7, 9, 40] [(0, .string a), (1, .string b), (2, .int .u8 n), (6, .bool false), (7, .slice A93 zs5.length c94), (9, .slice A911 zs13.length c912), (40, .bool (!decide (e14 = 0)))] ((True) ∧ (True) ∧ (True) ∧ (True) ∧ True) rfl (by kernel_rfl) ⟨trivial, trivial, trivial, trivial, trivial⟩ ?_
        refine RunR.env [0, 1, 2, 6, 7, 9, 40] [(0, .string a), (1, .string b), (2, .int .u8 n), (6, .bool false), (7, .slice A93 zs5.length c94), (9, .slice A911 zs13.length c912), (40, .bool (!decide (e14 = 0)))] (by kernel_rfl) ?_
        by_cases h20 : e14 = 0
        · skip
          refine RunR.enveq [(0, .string a), (1, .string b), (2, .int .u8 n), (6, .bool false), (7, .slice A93 zs5.length c94), (9, .slice A911 zs13.length c912), (40, .bool false)] (by rw [decide_eq_true h20]; try rfl) ?_
          refine RunR.sil hU [] 4 11 [0, 1, 2, 6, 7, 9, 44] [(0, .string a), (1, .string b), (2, .int .u8 n), (6, .bool false), (7, .slice A93 zs5.length c94), (9, .slice A911 zs13.length c912), (44, .bool (decide (a = ⟨#[]⟩)))] ((True) ∧ (True) ∧ (True) ∧ (True) ∧ True) rfl (by kernel_rfl) ⟨trivial, trivial, trivial, trivial, trivial⟩ ?_
          refine RunR.env [0, 1, 2, 6, 7, 9, 44] [(0, .string a), (1, .string b), (2, .int .u8 n), (6, .bool false), (7, .slice A93 zs5.length c94), (9, .slice A911 zs13.length c912), (44, .bool (decide (a = ⟨#[]⟩)))] (by kernel_rfl) ?_
          by_cases h21 : a = ⟨#[]⟩
          · skip
            refine RunR.enveq [(0, .string a), (1, .string b), (2, .int .u8 n), (6, .bool false), (7, .slice A93 zs5.length c94), (9, .slice A911 zs13.length c912), (44, .bool true)] (by rw [decide_eq_true h21]; try rfl) ?_
            refine RunR.sil hU [] 7 18 [0, 1, 2, 6, 7, 9, 51] [(0, .string a), (1, .string b), (2, .int .u8 n), (6, .bool false), (7, .slice A93 zs5.length c94), (9, .slice A911 zs13.length c912), (51, .bool true)] ((True) ∧ True) rfl (by kernel_rfl) ⟨trivial, trivial⟩ ?_
            refine RunR.done (by kernel_rfl) ?_
            refine kseq_n ?_
            refine RunC.cond (b := true) (by kernel_rfl) (fun _ => ?_) (fun h => by cases h)
            refine RunC.seq ?_
            refine RunC.region ?_
            refine RunR.sil hU [] 1 1 [0, 1, 2, 6, 7, 9] [(0, .string a), (1, .string b), (2, .int .u8 n), (6, .bool true), (7, .slice A93 zs5.length c94), (9, .slice A911 zs13.length c912)] ((True) ∧ True) rfl (by kernel_rfl) ⟨trivial, trivial⟩ ?_
            refine RunR.done (by kernel_rfl) ?_
            refine kseq_n ?_
            refine RunC.ret ?_
            refine kseq_r ?_
            refine kret_r [.bool true] [] [] ⟨rfl, trivial⟩ (by kernel_rfl) rfl ⟨rfl, rfl⟩
          · skip
            refine RunR.enveq [(0, .string a), (1, .string b), (2, .int .u8 n), (6, .bool false), (7, .slice A93 zs5.length c94), (9, .slice A911 zs13.length c912), (44, .bool false)] (by rw [decide_eq_false h21]; try rfl) ?_
            refine RunR.sil hU [15] 7 18 [0, 1, 2, 6, 7, 9, 51] [(0, .string a), (1, .string b), (2, .int .u8 n), (6, .bool false), (7, .slice A93 zs5.length c94), (9, .slice A911 zs13.length c912), (51, .bool (decide ((((zs5.length : Nat) : Int) + ((zs13.length : Nat) : Int)) > 32)))] ((True) ∧ (True) ∧ (True) ∧ (True) ∧ (-9223372036854775808 ≤ (((zs5.length : Nat) : Int) + ((zs13.length : Nat) : Int)) ∧ (((zs5.length : Nat) : Int) + ((zs13.length : Nat) : Int)) < 9223372036854775808) ∧ (True) ∧ (True) ∧ True) rfl (by kernel_rfl) ⟨trivial, trivial, trivial, trivial, (by omega), trivial, trivial, trivial⟩ ?_
            refine RunR.done (by kernel_rfl) ?_
            refine kseq_n ?_
            refine RunC.condp ((((zs5.length : Nat) : Int) + ((zs13.length : Nat) : Int)) > 32) (by kernel_rfl) (fun h22 => ?_) (fun h22 => ?_)
            · skip
              refine RunC.seq ?_
              refine RunC.region ?_
              refine RunR.sil hU [] 1 1 [0, 1, 2, 6, 7, 9] [(0, .string a), (1, .string b), (2, .int .u8 n), (6, .bool true), (7, .slice A93 zs5.length c94), (9, .slice A911 zs13.length c912)] ((True) ∧ True) rfl (by kernel_rfl) ⟨trivial, trivial⟩ ?_
              refine RunR.done (by kernel_rfl) ?_
              refine kseq_n ?_
              refine RunC.ret ?_
              refine kseq_r ?_
              refine kret_r [.bool true] [] [] ⟨rfl, trivial⟩ (by kernel_rfl) rfl ⟨rfl, rfl⟩
            · skip
              refine RunC.skip ?_
              refine kseq_n ?_
              refine RunC.seq ?_
              refine RunC.region ?_
              refine RunR.step (dst := some 52) (op := .buildSlice 33 4 #[(0, .const (.string ⟨#[47]⟩)), (1, .const (.string ⟨#[47, 47]⟩)), (2, .const (.string ⟨#[47, 46, 47]⟩)), (3, .const (.string ⟨#[47, 46, 47, 46, 47, 47]⟩))]) (by kernel_rfl) (Step.lit_vals hU 9 16 (.string ⟨#[]⟩) (strV ([⟨#[47]⟩, ⟨#[47, 47]⟩, ⟨#[47, 46, 47]⟩, ⟨#[47, 46, 47, 46, 47, 47]⟩] : List ByteArray)) (by kernel_rfl) (by kernel_rfl) (by kernel_rfl) (by simp [strV, Value.cells]) rfl rfl (by kernel_rfl) (fun b23 => ?_))
              refine RunR.sil hU [2, 3] 4 5 [0, 1, 6, 7, 9, 56] [(0, .string a), (1, .string b), (6, .bool false), (7, .slice A93 zs5.length c94), (9, .slice A911 zs13.length c912), (56, .pointer (elemAt (some ⟨b23, 0, none⟩) (n % (4 : Int)) 1))] ((True) ∧ (-9223372036854775808 ≤ n ∧ n < 9223372036854775808) ∧ (0 ≤ n ∧ 0 < (4 : Int)) ∧ ((0 ≤ (n % (4 : Int)) ∧ (n % (4 : Int)) < ((4 : Nat) : Int)) ∧ Option.isSome (some ⟨b23, 0, none⟩ : Option Addr) = true) ∧ True) rfl (by kernel_rfl) ⟨trivial, (by omega), (by omega), ⟨by omega, rfl⟩, trivial⟩ ?_
              refine RunR.step (dst := some 57) (op := .load 9 (.tmp 56)) (by kernel_rfl) (Step.load_of hU 0 (row 9 1 (.slice (some ⟨b23, 0, none⟩) 4 4) 4 (strV ([⟨#[47]⟩, ⟨#[47, 47]⟩, ⟨#[47, 46, 47]⟩, ⟨#[47, 46, 47, 46, 47, 47]⟩] : List ByteArray))) (some ⟨b23, 0, none⟩) (n % (4 : Int)) 1 (strV ([⟨#[47]⟩, ⟨#[47, 47]⟩, ⟨#[47, 46, 47]⟩, ⟨#[47, 46, 47, 46, 47, 47]⟩] : List ByteArray)) (.string (([⟨#[47]⟩, ⟨#[47, 47]⟩, ⟨#[47, 46, 47]⟩, ⟨#[47, 46, 47, 46, 47, 47]⟩] : List ByteArray).getD (n % (4 : Int)).toNat ByteArray.empty)) (by kernel_rfl) (by kernel_rfl) (tells_row _ _ _ _ _ _) (loadv_str (by kernel_rfl) (by first | omega | (simp only [List.length_cons, List.length_nil]; omega))) (by kernel_rfl) (by rw [strV_len]; first | omega | (simp only [List.length_cons, List.length_nil]; omega)) ?_)
              refine RunR.sil hU [] 1 7 [0, 1, 6, 7, 9, 11] [(0, .string a), (1, .string b), (6, .bool false), (7, .slice A93 zs5.length c94), (9, .slice A911 zs13.length c912), (11, .string (([⟨#[47]⟩, ⟨#[47, 47]⟩, ⟨#[47, 46, 47]⟩, ⟨#[47, 46, 47, 46, 47, 47]⟩] : List ByteArray).getD (n % (4 : Int)).toNat ByteArray.empty))] ((True) ∧ True) rfl (by kernel_rfl) ⟨trivial, trivial⟩ ?_
              refine RunR.done (by kernel_rfl) ?_
              refine kseq_n ?_
              refine RunC.seq ?_
              refine RunC.region ?_
              refine RunR.sil hU [] 5 5 [6, 7, 9, 63] [(6, .bool false), (7, .slice A93 zs5.length c94), (9, .slice A911 zs13.length c912), (63, .string ((a ++ (([⟨#[47]⟩, ⟨#[47, 47]⟩, ⟨#[47, 46, 47]⟩, ⟨#[47, 46, 47, 46, 47, 47]⟩] : List ByteArray).getD (n % (4 : Int)).toNat ByteArray.empty)) ++ b))] ((True) ∧ (True) ∧ ((a : ByteArray).size + (([⟨#[47]⟩, ⟨#[47, 47]⟩, ⟨#[47, 46, 47]⟩, ⟨#[47, 46, 47, 46, 47, 47]⟩] : List ByteArray).getD (n % (4 : Int)).toNat ByteArray.empty : ByteArray).size ≤ 9223372036854775807) ∧ (True) ∧ ((a ++ (([⟨#[47]⟩, ⟨#[47, 47]⟩, ⟨#[47, 46, 47]⟩, ⟨#[47, 46, 47, 46, 47, 47]⟩] : List ByteArray).getD (n % (4 : Int)).toNat ByteArray.empty) : ByteArray).size + (b : ByteArray).size ≤ 9223372036854775807) ∧ True) rfl (by kernel_rfl) ⟨trivial, trivial, (by have h6_ := mids_le (n % 4).toNat; simp only [MIDS] at h6_; (try simp only [app_size]); omega), trivial, (by have h6_ := mids_le (n % 4).toNat; simp only [MIDS] at h6_; (try simp only [app_size]); omega), trivial⟩ ?_
              refine RunR.step (dst := some 64) (op := .call { callee := .value (.func 18), args := #[.tmp 63], argTypes := #[9] }) (by kernel_rfl) (Step.call 18 [.string ((a ++ (([⟨#[47]⟩, ⟨#[47, 47]⟩, ⟨#[47, 46, 47]⟩, ⟨#[47, 46, 47, 46, 47, 47]⟩] : List ByteArray).getD (n % (4 : Int)).toNat ByteArray.empty)) ++ b)] (by kernel_rfl) (by kernel_rfl) [] [] [row 9 1 (.slice (some ⟨b23, 0, none⟩) 4 4) 4 (strV ([⟨#[47]⟩, ⟨#[47, 47]⟩, ⟨#[47, 46, 47]⟩, ⟨#[47, 46, 47, 46, 47, 47]⟩] : List ByteArray)), row 9 1 (.slice A911 zs13.length c912) zs13.length (strV zs13), row 9 1 (.slice A93 zs5.length c94) zs5.length (strV zs5)] (p_Parts_spec ((a ++ (([⟨#[47]⟩, ⟨#[47, 47]⟩, ⟨#[47, 46, 47]⟩, ⟨#[47, 46, 47, 46, 47, 47]⟩] : List ByteArray).getD (n % (4 : Int)).toNat ByteArray.empty)) ++ b) (by have h6_ := mids_le (n % 4).toNat; simp only [MIDS] at h6_; (try simp only [app_size]); omega)) [] (by kernel_rfl) (Lend.nil _) ?_)
              rintro _ _ ⟨A924, c925, zs26, e27, rfl, rfl, hp28, hp29, hp30⟩
              have hq31 := PartsR.len hp28
              refine RunR.sil hU [] 5 11 [6, 7, 9, 12, 13] [(6, .bool false), (7, .slice A93 zs5.length c94), (9, .slice A911 zs13.length c912), (12, .slice A924 zs26.length c925), (13, .int .i64 e27)] ((True) ∧ (True) ∧ (True) ∧ (True) ∧ (True) ∧ True) rfl (by kernel_rfl) ⟨trivial, trivial, trivial, trivial, trivial, trivial⟩ ?_
              refine RunR.done (by kernel_rfl) ?_
              refine kseq_n ?_
              refine RunC.seq ?_
              refine RunC.region ?_
              refine RunR.sil hU [] 3 3 [6, 7, 9, 12, 69] [(6, .bool false), (7, .slice A93 zs5.length c94), (9, .slice A911 zs13.length c912), (12, .slice A924 zs26.length c925), (69, .bool (decide (e27 = 0)))] ((True) ∧ (True) ∧ (True) ∧ True) rfl (by kernel_rfl) ⟨trivial, trivial, trivial, trivial⟩ ?_
              refine RunR.env [6, 7, 9, 12, 69] [(6, .bool false), (7, .slice A93 zs5.length c94), (9, .slice A911 zs13.length c912), (12, .slice A924 zs26.length c925), (69, .bool (decide (e27 = 0)))] (by kernel_rfl) ?_
              have hk32 : (e27 = 0) := by exact (pl_all (mids_mid (by omega)) hp7 hp15 (by assumption) (by assumption) (by assumption) (by assumption) hp28).1
              refine RunR.enveq [(6, .bool false), (7, .slice A93 zs5.length c94), (9, .slice A911 zs13.length c912), (12, .slice A924 zs26.length c925), (69, .bool true)] (by rw [decide_eq_true hk32]; try rfl) ?_
              refine RunR.sil hU [] 1 4 [6, 7, 9, 69, 70] [(6, .bool false), (7, .slice A93 zs5.length c94), (9, .slice A911 zs13.length c912), (69, .bool true), (70, .slice A924 zs26.length c925)] ((True) ∧ True) rfl (by kernel_rfl) ⟨trivial, trivial⟩ ?_
              refine RunR.step (dst := some 71) (op := .buildSlice 33 0 #[]) (by kernel_rfl) (Step.lit_vals hU 9 16 (.string ⟨#[]⟩) (strV ([] : List ByteArray)) (by kernel_rfl) (by kernel_rfl) (by kernel_rfl) (by simp [strV, Value.cells]) rfl rfl (by kernel_rfl) (fun b33 => ?_))
              refine RunR.sil hU [] 1 6 [6, 9, 69, 70, 71, 72] [(6, .bool false), (9, .slice A911 zs13.length c912), (69, .bool true), (70, .slice A924 zs26.length c925), (71, .slice (some ⟨b33, 0, none⟩) 0 0), (72, .slice A93 zs5.length c94)] ((True) ∧ True) rfl (by kernel_rfl) ⟨trivial, trivial⟩ ?_
              refine RunR.step (dst := some 73) (op := .call { callee := .builtin .append, args := #[.tmp 71, .tmp 72], argTypes := #[33, 33] }) (by kernel_rfl) (Step.append_strs hU 9 16 (.string ⟨#[]⟩) 0 4 (some ⟨b33, 0, none⟩) 0 0 ([] : List ByteArray) A93 zs5.length c94 (row 9 1 (.slice A93 zs5.length c94) zs5.length (strV zs5)) zs5 (by kernel_rfl) (by kernel_rfl) (by kernel_rfl) (by kernel_rfl) (by kernel_rfl) (by kernel_rfl) (by kernel_rfl) (tells_row _ _ _ _ _ _) (by first | rfl | omega | (simp only [List.length_cons, List.length_nil] at *; omega)) (by first | rfl | omega | (simp only [List.length_cons, List.length_nil] at *; omega)) (by first | rfl | omega | (simp only [List.length_cons, List.length_nil] at *; omega)) (by first | rfl | omega | (simp only [List.length_cons, List.length_nil] at *; omega)) (by kernel_rfl) (fun Aq34 cq35 hc36 hA37 => ?_))
              have hl38 : (([] : List ByteArray) ++ zs5).length = ([] : List ByteArray).length + zs5.length := List.length_append
              refine RunR.sil hU [] 1 8 [6, 69, 70, 73, 74] [(6, .bool false), (69, .bool true), (70, .slice A924 zs26.length c925), (73, .slice Aq34 ((([] : List ByteArray) ++ zs5).length) cq35), (74, .slice A911 zs13.length c912)] ((True) ∧ True) rfl (by kernel_rfl) ⟨trivial, trivial⟩ ?_
              refine RunR.step (dst := some 75) (op := .call { callee := .builtin .append, args := #[.tmp 73, .tmp 74], argTypes := #[33, 33] }) (by kernel_rfl) (Step.append_strs hU 9 16 (.string ⟨#[]⟩) 0 3 Aq34 ((([] : List ByteArray) ++ zs5).length) cq35 (([] : List ByteArray) ++ zs5) A911 zs13.length c912 (row 9 1 (.slice A911 zs13.length c912) zs13.length (strV zs13)) zs13 (by kernel_rfl) (by kernel_rfl) (by kernel_rfl) (by kernel_rfl) (by kernel_rfl) (by kernel_rfl) (by kernel_rfl) (tells_row _ _ _ _ _ _) (by first | rfl | omega | (simp only [List.length_cons, List.length_nil] at *; omega)) (by first | rfl | omega | (simp only [List.length_cons, List.length_nil] at *; omega)) (by first | rfl | omega | (simp only [List.length_cons, List.length_nil] at *; omega)) (by first | rfl | omega | (simp only [List.length_cons, List.length_nil] at *; omega)) (by kernel_rfl) (fun Aq39 cq40 hc41 hA42 => ?_))
              have hl43 : ((([] : List ByteArray) ++ zs5) ++ zs13).length = (([] : List ByteArray) ++ zs5).length + zs13.length := List.length_append
              refine RunR.step (dst := some 76) (op := .call { callee := .value (.func 20), args := #[.tmp 70, .tmp 75], argTypes := #[33, 33] }) (by kernel_rfl) (Step.call 20 [.slice A924 zs26.length c925, .slice Aq39 (((([] : List ByteArray) ++ zs5) ++ zs13).length) cq40] (by kernel_rfl) (by kernel_rfl) [] [vw A924 (strV zs26), vw Aq39 (strV ((([] : List ByteArray) ++ zs5) ++ zs13))] [row 9 1 (.slice Aq39 (((([] : List ByteArray) ++ zs5) ++ zs13).length) cq40) (((([] : List ByteArray) ++ zs5) ++ zs13).length) (strV ((([] : List ByteArray) ++ zs5) ++ zs13)), row 9 1 (.slice A924 zs26.length c925) zs26.length (strV zs26), row 9 1 (.slice (some ⟨b23, 0, none⟩) 4 4) 4 (strV ([⟨#[47]⟩, ⟨#[47, 47]⟩, ⟨#[47, 46, 47]⟩, ⟨#[47, 46, 47, 46, 47, 47]⟩] : List ByteArray)), row 9 1 (.slice A911 zs13.length c912) zs13.length (strV zs13), row 9 1 (.slice A93 zs5.length c94) zs5.length (strV zs5)] (pr_Same_spec A924 c925 zs26 Aq39 cq40 ((([] : List ByteArray) ++ zs5) ++ zs13) zs26.length (((([] : List ByteArray) ++ zs5) ++ zs13).length) (by exact Nat.le_trans (PartsR.len (by assumption)) (by decide)) (by exact (PartsR.may (by assumption)).sz) (by first | assumption | omega | (simp only [List.length_append, List.length_cons, List.length_nil, List.length_set, List.length_replicate, List.length_take, List.length_drop]; omega) | (simp only [fits] at *; omega) | (simp only [List.length_append, List.length_cons, List.length_nil, List.length_set, List.length_replicate, List.length_take, List.length_drop] at *; omega) | (simp; done) | decide) (by first | assumption | omega | (simp only [List.length_append, List.length_cons, List.length_nil, List.length_set, List.length_replicate, List.length_take, List.length_drop]; omega) | (simp only [fits] at *; omega) | (simp only [List.length_append, List.length_cons, List.length_nil, List.length_set, List.length_replicate, List.length_take, List.length_drop] at *; omega) | (simp; done) | decide) (by exact SzOK.app (SzOK.app SzOK.nil (PartsR.may hp7).sz) (PartsR.may hp15).sz) (by first | assumption | omega | (simp only [List.length_append, List.length_cons, List.length_nil, List.length_set, List.length_replicate, List.length_take, List.length_drop]; omega) | (simp only [fits] at *; omega) | (simp only [List.length_append, List.length_cons, List.length_nil, List.length_set, List.length_replicate, List.length_take, List.length_drop] at *; omega) | (simp; done) | decide) (by first | rfl | assumption | omega | (simp only [List.length_append, List.length_cons, List.length_nil, List.length_set, List.length_replicate, List.length_take, List.length_drop]; omega) | (simp; done)) (by first | rfl | assumption | omega | (simp only [List.length_append, List.length_cons, List.length_nil, List.length_set, List.length_replicate, List.length_take, List.length_drop]; omega) | (simp; done))) [] (by kernel_rfl) (((Lend.nil _).tells 0 (row 9 1 (.slice Aq39 (((([] : List ByteArray) ++ zs5) ++ zs13).length) cq40) (((([] : List ByteArray) ++ zs5) ++ zs13).length) (strV ((([] : List ByteArray) ++ zs5) ++ zs13))) Aq39 (strV ((([] : List ByteArray) ++ zs5) ++ zs13)) (by kernel_rfl) (tells_row _ _ _ _ _ _)).tells 1 (row 9 1 (.slice A924 zs26.length c925) zs26.length (strV zs26)) A924 (strV zs26) (by kernel_rfl) (tells_row _ _ _ _ _ _)) ?_)
              rintro _ _ ⟨rfl, rfl⟩
              refine RunR.sil hU [] 2 12 [6] [(6, .bool (decide (zs26 = ((([] : List ByteArray) ++ zs5) ++ zs13))))] ((True) ∧ (True) ∧ True) rfl (by kernel_rfl) ⟨trivial, trivial, trivial⟩ ?_
              refine RunR.env [6] [(6, .bool (decide (zs26 = ((([] : List ByteArray) ++ zs5) ++ zs13))))] (by kernel_rfl) ?_
              have hk44 : (zs26 = ((([] : List ByteArray) ++ zs5) ++ zs13)) := by exact (pl_all (mids_mid (by omega)) hp7 hp15 (by assumption) (by assumption) (by assumption) (by assumption) hp28).2
              refine RunR.enveq [(6, .bool true)] (by rw [decide_eq_true hk44]; try rfl) ?_
              refine RunR.done (by kernel_rfl) ?_
              refine kseq_n ?_
              refine RunC.ret ?_
              refine kret_r [.bool true] [] [] ⟨rfl, trivial⟩ (by kernel_rfl) rfl ⟨rfl, rfl⟩
        · skip
          refine RunR.enveq [(0, .string a), (1, .string b), (2, .int .u8 n), (6, .bool false), (7, .slice A93 zs5.length c94), (9, .slice A911 zs13.length c912), (40, .bool true)] (by rw [decide_eq_false h20]; try rfl) ?_
          refine RunR.sil hU [] 11 18 [0, 1, 2, 6, 7, 9, 51] [(0, .string a), (1, .string b), (2, .int .u8 n), (6, .bool false), (7, .slice A93 zs5.length c94), (9, .slice A911 zs13.length c912), (51, .bool true)] ((True) ∧ (True) ∧ (True) ∧ True) rfl (by kernel_rfl) ⟨trivial, trivial, trivial, trivial⟩ ?_
          refine RunR.done (by kernel_rfl) ?_
          refine kseq_n ?_
          refine RunC.cond (b := true) (by kernel_rfl) (fun _ => ?_) (fun h => by cases h)
          refine RunC.seq ?_
          refine RunC.region ?_
          refine RunR.sil hU [] 1 1 [0, 1, 2, 6, 7, 9] [(0, .string a), (1, .string b), (2, .int .u8 n), (6, .bool true), (7, .slice A93 zs5.length c94), (9, .slice A911 zs13.length c912)] ((True) ∧ True) rfl (by kernel_rfl) ⟨trivial, trivial⟩ ?_
          refine RunR.done (by kernel_rfl) ?_
          refine kseq_n ?_
          refine RunC.ret ?_
          refine kseq_r ?_
          refine kret_r [.bool true] [] [] ⟨rfl, trivial⟩ (by kernel_rfl) rfl ⟨rfl, rfl⟩
      · skip
        refine RunR.enveq [(0, .string a), (1, .string b), (2, .int .u8 n), (6, .bool false), (7, .slice A93 zs5.length c94), (9, .slice A911 zs13.length c912), (10, .int .i64 e14), (36, .bool true)] (by rw [decide_eq_false h19]; try rfl) ?_
        refine RunR.sil hU [] 15 18 [0, 1, 2, 6, 7, 9, 51] [(0, .string a), (1, .string b), (2, .int .u8 n), (6, .bool false), (7, .slice A93 zs5.length c94), (9, .slice A911 zs13.length c912), (51, .bool true)] ((True) ∧ (True) ∧ (True) ∧ (True) ∧ (True) ∧ True) rfl (by kernel_rfl) ⟨trivial, trivial, trivial, trivial, trivial, trivial⟩ ?_
        refine RunR.done (by kernel_rfl) ?_
        refine kseq_n ?_
        refine RunC.cond (b := true) (by kernel_rfl) (fun _ => ?_) (fun h => by cases h)
        refine RunC.seq ?_
        refine RunC.region ?_
        refine RunR.sil hU [] 1 1 [0, 1, 2, 6, 7, 9] [(0, .string a), (1, .string b), (2, .int .u8 n), (6, .bool true), (7, .slice A93 zs5.length c94), (9, .slice A911 zs13.length c912)] ((True) ∧ True) rfl (by kernel_rfl) ⟨trivial, trivial⟩ ?_
        refine RunR.done (by kernel_rfl) ?_
        refine kseq_n ?_
        refine RunC.ret ?_
        refine kseq_r ?_
        refine kret_r [.bool true] [] [] ⟨rfl, trivial⟩ (by kernel_rfl) rfl ⟨rfl, rfl⟩
end Go.Proofs.YtjhinpmnpdgadaaDoor.LPathLoose
