/- What these functions compute: a contract for each, walked through its code. -/
import Derived.Test.YtoaoabnhkiijpaaCPure
import Derived.Test.YtoaoabnhkiijpaaProg
import Derived.Test.YtoaoabnhkiijpaaV1
import Derived.Test.YtoaoabnhkiijpaaV2
import Derived.Test.YtoaoabnhkiijpaaV3
import Derived.Test.YtoaoabnhkiijpaaV4
import Derived.Test.YtoaoabnhkiijpaaV5
import Derived.Test.YtoaoabnhkiijpaaV6
namespace Go.Proofs.Ytoaoabnhkiijpaa.V7
open Go Go.Proofs.Ytoaoabnhkiijpaa.SL Go.Proofs.Ytoaoabnhkiijpaa.SL.W Go.Proofs.Ytoaoabnhkiijpaa.SL.C Go.Proofs.Ytoaoabnhkiijpaa.V1 Go.Proofs.Ytoaoabnhkiijpaa.V2 Go.Proofs.Ytoaoabnhkiijpaa.V3 Go.Proofs.Ytoaoabnhkiijpaa.V4 Go.Proofs.Ytoaoabnhkiijpaa.V5 Go.Proofs.Ytoaoabnhkiijpaa.V6
set_option linter.unusedVariables false
set_option linter.unusedSimpArgs false
set_option maxRecDepth 100000
set_option maxHeartbeats 40000000
def U : Tab where
  und := [(3, .int .i64), (5, .int .u8), (22, .slice 5), (25, .int .i64)]
  fld := []
  sz := [(3, 1), (5, 1), (22, 1), (25, 1)]
  ti := [(3, (1, 8, .int .i64 0)), (5, (1, 1, .int .u8 0)), (22, (1, 24, .slice none 0 0)), (25, (1, 8, .int .i64 0))]
  bld := []

theorem hU : U.OK Try.prog where
  und := by
    intro p hp
    simp only [U, List.mem_cons, List.not_mem_nil, or_false] at hp
    rcases hp with rfl | rfl | rfl | rfl
    · exact Try.underlying3
    · exact Try.underlying5
    · exact Try.underlying22
    · exact Try.underlying25
  fld := by
    intro p hp; cases hp
  sz := by
    intro p hp
    simp only [U, List.mem_cons, List.not_mem_nil, or_false] at hp
    rcases hp with rfl | rfl | rfl | rfl
    · exact ⟨Try.prog.types[3]!, by kernel_rfl, by kernel_rfl⟩
    · exact ⟨Try.prog.types[5]!, by kernel_rfl, by kernel_rfl⟩
    · exact ⟨Try.prog.types[22]!, by kernel_rfl, by kernel_rfl⟩
    · exact ⟨Try.prog.types[25]!, by kernel_rfl, by kernel_rfl⟩
  ti := by
    intro p hp
    simp only [U, List.mem_cons, List.not_mem_nil, or_false] at hp
    rcases hp with rfl | rfl | rfl | rfl
    · exact ⟨Try.prog.types[3]!, by kernel_rfl, by kernel_rfl, by kernel_rfl, by kernel_rfl⟩
    · exact ⟨Try.prog.types[5]!, by kernel_rfl, by kernel_rfl, by kernel_rfl, by kernel_rfl⟩
    · exact ⟨Try.prog.types[22]!, by kernel_rfl, by kernel_rfl, by kernel_rfl, by kernel_rfl⟩
    · exact ⟨Try.prog.types[25]!, by kernel_rfl, by kernel_rfl, by kernel_rfl, by kernel_rfl⟩
  bld := by
    intro p hp; cases hp
  mixed := by kernel_rfl

theorem l4_awake_spec  :
    CallsS Try.prog 15 [] [] (fun r D => r = .bool true ∧ D = []) := by
  refine CallsS.enter hU Try.f15 _ [.tmp 0] 62 Try.func15 rfl (by decide) rfl rfl (by kernel_rfl) fun w0 W => ?_
  refine RunC.seq ?_
  refine RunC.region ?_
  refine RunR.sil hU [] 1 1 [0] [(0, .bool false)] ((True) ∧ True) rfl (by kernel_rfl) ⟨trivial, trivial⟩ ?_
  refine RunR.done (by kernel_rfl) ?_
  refine kseq_n ?_
  refine RunC.seq ?_
  refine RunC.region ?_
  refine RunR.step (dst := some 7) (op := .makeSlice 22 (.const (.int .i64 32)) (.const (.int .i64 32))) (by kernel_rfl) (Step.make_nums hU 5 1 .u8 .i64 .i64 (32) rfl rfl (by kernel_rfl) (by kernel_rfl) (by omega) (by omega) (by kernel_rfl) (fun b1 => ?_))
  have hl2 : (List.replicate 32 (0 : Int)).length = 32 := List.length_replicate
  refine RunR.sil hU [] 1 2 [0, 1] [(0, .bool false), (1, .slice (some ⟨b1, 0, none⟩) 32 32)] ((True) ∧ True) rfl (by kernel_rfl) ⟨trivial, trivial⟩ ?_
  refine RunR.done (by kernel_rfl) ?_
  refine kseq_n ?_
  refine RunC.seq ?_
  refine RunC.seq ?_
  refine RunC.region ?_
  refine RunR.sil hU [] 1 1 [0, 1, 2] [(0, .bool false), (1, .slice (some ⟨b1, 0, none⟩) 32 32), (2, .int .i64 0)] ((True) ∧ True) rfl (by kernel_rfl) ⟨trivial, trivial⟩ ?_
  refine RunR.done (by kernel_rfl) ?_
  refine kseq_n ?_
  refine RunC.block ?_
  refine RunC.env [0, 1, 2] [(0, .bool false), (1, .slice (some ⟨b1, 0, none⟩) 32 32), (2, .int .i64 0)] (by kernel_rfl) ?_
  refine RunC.only [0] [row 5 1 (.slice (some ⟨b1, 0, none⟩) 32 32) 32 (nums .u8 (List.replicate 32 (0 : Int)))] (by kernel_rfl) ?_
  refine RunC.loop (σ := Nat) (fun n_ t_ D_ => ∃ (i : Int) (zs : List Int), (0 ≤ i) ∧ (i ≤ 32) ∧ (zs = kk i.toNat ++ List.replicate (32 - i).toNat 0) ∧ (zs.length = 32) ∧ (In .u8 zs) ∧ n_ = ((32 - i).toNat : Nat) ∧ t_ = [(0, .bool false), (1, .slice (some ⟨b1, 0, none⟩) 32 32), (2, .int .i64 i)] ∧ D_ = [row 5 1 (.slice (some ⟨b1, 0, none⟩) 32 32) 32 (nums .u8 zs)]) id _ ⟨0, (List.replicate 32 (0 : Int)), (by first | assumption | omega | (simp only [List.length_append, List.length_cons, List.length_nil, List.length_set, List.length_replicate, List.length_take, List.length_drop]; omega) | (simp only [fits] at *; omega) | (simp only [List.length_append, List.length_cons, List.length_nil, List.length_set, List.length_replicate, List.length_take, List.length_drop] at *; omega) | (simp; done) | decide), (by first | assumption | omega | (simp only [List.length_append, List.length_cons, List.length_nil, List.length_set, List.length_replicate, List.length_take, List.length_drop]; omega) | (simp only [fits] at *; omega) | (simp only [List.length_append, List.length_cons, List.length_nil, List.length_set, List.length_replicate, List.length_take, List.length_drop] at *; omega) | (simp; done) | decide), (by rfl), (by rfl), (by exact In.replicate _ _), rfl, rfl, rfl⟩ ?_
  rintro n_ _ _ ⟨i, zs, hi, hi2, hz, hzl, hzi, rfl, rfl, rfl⟩
  refine RunC.seq ?_
  refine RunC.seq ?_
  refine RunC.region ?_
  refine RunR.sil hU [] 2 2 [0, 1, 2, 9] [(0, .bool false), (1, .slice (some ⟨b1, 0, none⟩) 32 32), (2, .int .i64 i), (9, .bool (decide (i < 32)))] ((True) ∧ (True) ∧ True) rfl (by kernel_rfl) ⟨trivial, trivial, trivial⟩ ?_
  refine RunR.done (by kernel_rfl) ?_
  refine kseq_n ?_
  refine RunC.condp (i < 32) (by kernel_rfl) (fun h3 => ?_) (fun h3 => ?_)
  · skip
    refine RunC.skip ?_
    refine kseq_n ?_
    refine RunC.seq ?_
    refine RunC.block ?_
    refine RunC.region ?_
    refine RunR.sil hU [3] 5 5 [0, 1, 2, 15, 16] [(0, .bool false), (1, .slice (some ⟨b1, 0, none⟩) 32 32), (2, .int .i64 i), (15, .int .u8 i), (16, .pointer (elemAt (some ⟨b1, 0, none⟩) i 1))] ((True) ∧ (True) ∧ (True) ∧ (0 ≤ i ∧ i < 256) ∧ ((0 ≤ i ∧ i < ((32 : Nat) : Int)) ∧ Option.isSome (some ⟨b1, 0, none⟩ : Option Addr) = true) ∧ True) rfl (by kernel_rfl) ⟨trivial, trivial, trivial, (by omega), ⟨by omega, rfl⟩, trivial⟩ ?_
    refine RunR.step (dst := none) (op := .store 5 (.tmp 16) (.tmp 15)) (by kernel_rfl) (Step.store_num hU 0 5 32 32 (some ⟨b1, 0, none⟩) .u8 zs i i (by kernel_rfl) (by kernel_rfl) (by kernel_rfl) rfl (by omega) ?_)
    have hl4 : (zs.set (i).toNat i).length = zs.length := List.length_set
    refine RunR.done (by kernel_rfl) ?_
    refine kblock_n ?_
    refine kseq_n ?_
    refine RunC.region ?_
    refine RunR.sil hU [1] 3 3 [0, 1, 2] [(0, .bool false), (1, .slice (some ⟨b1, 0, none⟩) 32 32), (2, .int .i64 (i + 1))] ((True) ∧ (-9223372036854775808 ≤ (i + 1) ∧ (i + 1) < 9223372036854775808) ∧ (True) ∧ True) rfl (by kernel_rfl) ⟨trivial, (by omega), trivial, trivial⟩ ?_
    refine RunR.done (by kernel_rfl) ?_
    refine kloop_n _ [0, 1, 2] [0] [(0, .bool false), (1, .slice (some ⟨b1, 0, none⟩) 32 32), (2, .int .i64 (i + 1))] [row 5 1 (.slice (some ⟨b1, 0, none⟩) 32 32) 32 (nums .u8 (zs.set (i).toNat i))] (by kernel_rfl) (by kernel_rfl) ?_ ⟨(i + 1), (zs.set (i).toNat i), (by first | assumption | omega | (simp only [List.length_append, List.length_cons, List.length_nil, List.length_set, List.length_replicate, List.length_take, List.length_drop]; omega) | (simp only [fits] at *; omega) | (simp only [List.length_append, List.length_cons, List.length_nil, List.length_set, List.length_replicate, List.length_take, List.length_drop] at *; omega) | (simp; done) | decide), (by first | assumption | omega | (simp only [List.length_append, List.length_cons, List.length_nil, List.length_set, List.length_replicate, List.length_take, List.length_drop]; omega) | (simp only [fits] at *; omega) | (simp only [List.length_append, List.length_cons, List.length_nil, List.length_set, List.length_replicate, List.length_take, List.length_drop] at *; omega) | (simp; done) | decide), (by rw [hz]; exact kk_step hi (by omega)), (by simpa using hzl), (by (repeat first | assumption | (simp only [fits]; omega) | with_reducible first | exact fits_wrap _ _ | exact fits_bits2 _ _ _ _ | exact In.nil _ | exact In.sb _ | exact In.replicate _ _ | apply In.append | apply In.cons | apply In.set | apply In.take | apply In.drop | apply In.rev)), rfl, (by rfl), (by rfl)⟩
    show ((32 - (i + 1)).toNat : Nat) < ((32 - i).toNat : Nat)
    omega
  · skip
    refine RunC.exit ?_
    refine kseq_e ?_
    refine kloop_e ?_
    refine kblock_e ?_
    refine kseq_n ?_
    refine RunC.seq ?_
    refine RunC.region ?_
    refine RunR.sil hU [] 1 1 [0, 18] [(0, .bool false), (18, .slice (some ⟨b1, 0, none⟩) 32 32)] ((True) ∧ True) rfl (by kernel_rfl) ⟨trivial, trivial⟩ ?_
    refine RunR.step (dst := some 19) (op := .buildSlice 22 12 #[(0, .const (.int .u8 0)), (1, .const (.int .u8 0)), (2, .const (.int .u8 0)), (3, .const (.int .u8 9)), (4, .const (.int .u8 0)), (5, .const (.int .u8 0)), (6, .const (.int .u8 0)), (7, .const (.int .u8 74)), (8, .const (.int .u8 0)), (9, .const (.int .u8 0)), (10, .const (.int .u8 0)), (11, .const (.int .u8 0))]) (by kernel_rfl) (Step.lit_nums hU 5 1 .u8 (.int .u8 0) ([0, 0, 0, 9, 0, 0, 0, 74, 0, 0, 0, 0] : List Int) rfl rfl (by kernel_rfl) rfl rfl (by kernel_rfl) (fun b5 => ?_))
    have hl6 : (([0, 0, 0, 9, 0, 0, 0, 74, 0, 0, 0, 0] : List Int)).length = 12 := rfl
    refine RunR.step (dst := some 20) (op := .call { callee := .value (.func 16), args := #[.tmp 18, .tmp 19, .const (.int .u32 1)], argTypes := #[22, 22, 23] }) (by kernel_rfl) (Step.call 16 [.slice (some ⟨b1, 0, none⟩) 32 32, .slice (some ⟨b5, 0, none⟩) 12 12, .int .u32 1] (by kernel_rfl) (by kernel_rfl) [] [vw (some ⟨b1, 0, none⟩) (nums .u8 zs), vw (some ⟨b5, 0, none⟩) (nums .u8 ([0, 0, 0, 9, 0, 0, 0, 74, 0, 0, 0, 0] : List Int))] [row 5 1 (.slice (some ⟨b5, 0, none⟩) 12 12) 12 (nums .u8 ([0, 0, 0, 9, 0, 0, 0, 74, 0, 0, 0, 0] : List Int)), row 5 1 (.slice (some ⟨b1, 0, none⟩) 32 32) 32 (nums .u8 zs)] (c_Block_spec (some ⟨b1, 0, none⟩) 32 zs (some ⟨b5, 0, none⟩) 12 ([0, 0, 0, 9, 0, 0, 0, 74, 0, 0, 0, 0] : List Int) 1 32 12 hzi (by (repeat first | assumption | (simp only [fits]; omega) | with_reducible first | exact fits_wrap _ _ | exact fits_bits2 _ _ _ _ | exact In.nil _ | exact In.sb _ | exact In.replicate _ _ | apply In.append | apply In.cons | apply In.set | apply In.take | apply In.drop | apply In.rev)) (by first | assumption | exact fits_wrap _ _ | exact fits_bits2 _ _ _ _ | (refine ⟨?_, ?_⟩ <;> omega)) (by first | assumption | omega | (simp only [List.length_append, List.length_cons, List.length_nil, List.length_set, List.length_replicate, List.length_take, List.length_drop]; omega) | (simp only [fits] at *; omega) | (simp only [List.length_append, List.length_cons, List.length_nil, List.length_set, List.length_replicate, List.length_take, List.length_drop] at *; omega) | (simp; done) | decide) (by first | assumption | omega | (simp only [List.length_append, List.length_cons, List.length_nil, List.length_set, List.length_replicate, List.length_take, List.length_drop]; omega) | (simp only [fits] at *; omega) | (simp only [List.length_append, List.length_cons, List.length_nil, List.length_set, List.length_replicate, List.length_take, List.length_drop] at *; omega) | (simp; done) | decide) (by first | rfl | assumption | omega | (simp only [List.length_append, List.length_cons, List.length_nil, List.length_set, List.length_replicate, List.length_take, List.length_drop]; omega) | (simp; done)) (by first | rfl | assumption | omega | (simp only [List.length_append, List.length_cons, List.length_nil, List.length_set, List.length_replicate, List.length_take, List.length_drop]; omega) | (simp; done))) [] (by kernel_rfl) (((Lend.nil _).tells 0 (row 5 1 (.slice (some ⟨b5, 0, none⟩) 12 12) 12 (nums .u8 ([0, 0, 0, 9, 0, 0, 0, 74, 0, 0, 0, 0] : List Int))) (some ⟨b5, 0, none⟩) (nums .u8 ([0, 0, 0, 9, 0, 0, 0, 74, 0, 0, 0, 0] : List Int)) (by kernel_rfl) (tells_row _ _ _ _ _ _)).tells 1 (row 5 1 (.slice (some ⟨b1, 0, none⟩) 32 32) 32 (nums .u8 zs)) (some ⟨b1, 0, none⟩) (nums .u8 zs) (by kernel_rfl) (tells_row _ _ _ _ _ _)) ?_)
    rintro _ _ ⟨A37, c38, zs9, e10, rfl, rfl, hp11, hp12, hp13, hp14, hp15⟩
    refine RunR.sil hU [] 5 8 [0, 3, 4] [(0, .bool false), (3, .slice A37 zs9.length c38), (4, .int .i64 e10)] ((True) ∧ (True) ∧ (True) ∧ (True) ∧ (True) ∧ True) rfl (by kernel_rfl) ⟨trivial, trivial, trivial, trivial, trivial, trivial⟩ ?_
    refine RunR.done (by kernel_rfl) ?_
    refine kseq_n ?_
    refine RunC.seq ?_
    refine RunC.region ?_
    refine RunR.turn ([vw none (nums .u8 ([] : List Int)), row 5 1 (.slice A37 zs9.length c38) zs9.length (nums .u8 zs9), row 5 1 (.slice (some ⟨b5, 0, none⟩) 12 12) 12 (nums .u8 ([0, 0, 0, 9, 0, 0, 0, 74, 0, 0, 0, 0] : List Int)), row 5 1 (.slice (some ⟨b1, 0, none⟩) 32 32) 32 (nums .u8 zs)]) (fun w hs => hs.nil_vw none) ?_
    refine RunR.step (dst := some 24) (op := .call { callee := .value (.func 16), args := #[.const (.slice none 0 0), .const (.slice none 0 0), .const (.int .u32 1)], argTypes := #[22, 22, 23] }) (by kernel_rfl) (Step.call 16 [.slice none 0 0, .slice none 0 0, .int .u32 1] (by kernel_rfl) (by kernel_rfl) [] [vw none (nums .u8 ([] : List Int)), vw none (nums .u8 ([] : List Int))] [vw none (nums .u8 ([] : List Int)), row 5 1 (.slice A37 zs9.length c38) zs9.length (nums .u8 zs9), row 5 1 (.slice (some ⟨b5, 0, none⟩) 12 12) 12 (nums .u8 ([0, 0, 0, 9, 0, 0, 0, 74, 0, 0, 0, 0] : List Int)), row 5 1 (.slice (some ⟨b1, 0, none⟩) 32 32) 32 (nums .u8 zs)] (c_Block_spec none 0 ([] : List Int) none 0 ([] : List Int) 1 0 0 (by (repeat first | assumption | (simp only [fits]; omega) | with_reducible first | exact fits_wrap _ _ | exact fits_bits2 _ _ _ _ | exact In.nil _ | exact In.sb _ | exact In.replicate _ _ | apply In.append | apply In.cons | apply In.set | apply In.take | apply In.drop | apply In.rev)) (by (repeat first | assumption | (simp only [fits]; omega) | with_reducible first | exact fits_wrap _ _ | exact fits_bits2 _ _ _ _ | exact In.nil _ | exact In.sb _ | exact In.replicate _ _ | apply In.append | apply In.cons | apply In.set | apply In.take | apply In.drop | apply In.rev)) (by first | assumption | exact fits_wrap _ _ | exact fits_bits2 _ _ _ _ | (refine ⟨?_, ?_⟩ <;> omega)) (by first | assumption | omega | (simp only [List.length_append, List.length_cons, List.length_nil, List.length_set, List.length_replicate, List.length_take, List.length_drop]; omega) | (simp only [fits] at *; omega) | (simp only [List.length_append, List.length_cons, List.length_nil, List.length_set, List.length_replicate, List.length_take, List.length_drop] at *; omega) | (simp; done) | decide) (by first | assumption | omega | (simp only [List.length_append, List.length_cons, List.length_nil, List.length_set, List.length_replicate, List.length_take, List.length_drop]; omega) | (simp only [fits] at *; omega) | (simp only [List.length_append, List.length_cons, List.length_nil, List.length_set, List.length_replicate, List.length_take, List.length_drop] at *; omega) | (simp; done) | decide) (by first | rfl | assumption | omega | (simp only [List.length_append, List.length_cons, List.length_nil, List.length_set, List.length_replicate, List.length_take, List.length_drop]; omega) | (simp; done)) (by first | rfl | assumption | omega | (simp only [List.length_append, List.length_cons, List.length_nil, List.length_set, List.length_replicate, List.length_take, List.length_drop]; omega) | (simp; done))) [] (by kernel_rfl) (((Lend.nil _).tells 0 (vw none (nums .u8 ([] : List Int))) none (nums .u8 ([] : List Int)) (by kernel_rfl) (tells_vw _ _)).tells 0 (vw none (nums .u8 ([] : List Int))) none (nums .u8 ([] : List Int)) (by kernel_rfl) (tells_vw _ _)) ?_)
    rintro _ _ ⟨A316, c317, zs18, e19, rfl, rfl, hp20, hp21, hp22, hp23, hp24⟩
    refine RunR.sil hU [] 5 6 [0, 3, 4, 6] [(0, .bool false), (3, .slice A37 zs9.length c38), (4, .int .i64 e10), (6, .int .i64 e19)] ((True) ∧ (True) ∧ (True) ∧ (True) ∧ (True) ∧ True) rfl (by kernel_rfl) ⟨trivial, trivial, trivial, trivial, trivial, trivial⟩ ?_
    refine RunR.done (by kernel_rfl) ?_
    refine kseq_n ?_
    refine RunC.seq ?_
    refine RunC.region ?_
    refine RunR.sil hU [] 3 3 [0, 3, 6, 29] [(0, .bool false), (3, .slice A37 zs9.length c38), (6, .int .i64 e19), (29, .bool (decide (e10 = 0)))] ((True) ∧ (True) ∧ (True) ∧ True) rfl (by kernel_rfl) ⟨trivial, trivial, trivial, trivial⟩ ?_
    refine RunR.env [0, 3, 6, 29] [(0, .bool false), (3, .slice A37 zs9.length c38), (6, .int .i64 e19), (29, .bool (decide (e10 = 0)))] (by kernel_rfl) ?_
    have hk25 : (e10 = 0) := by first | omega | (simp only [List.length_nil] at *; omega)
    refine RunR.enveq [(0, .bool false), (3, .slice A37 zs9.length c38), (6, .int .i64 e19), (29, .bool true)] (by rw [decide_eq_true hk25]; try rfl) ?_
    refine RunR.sil hU [] 5 8 [0, 3, 6, 34] [(0, .bool false), (3, .slice A37 zs9.length c38), (6, .int .i64 e19), (34, .bool (decide (((zs9.length : Nat) : Int) = 64)))] ((True) ∧ (True) ∧ (True) ∧ (True) ∧ (True) ∧ True) rfl (by kernel_rfl) ⟨trivial, trivial, trivial, trivial, trivial, trivial⟩ ?_
    refine RunR.env [0, 3, 6, 34] [(0, .bool false), (3, .slice A37 zs9.length c38), (6, .int .i64 e19), (34, .bool (decide (((zs9.length : Nat) : Int) = 64)))] (by kernel_rfl) ?_
    have hk26 : (((zs9.length : Nat) : Int) = 64) := by omega
    refine RunR.enveq [(0, .bool false), (3, .slice A37 zs9.length c38), (6, .int .i64 e19), (34, .bool true)] (by rw [decide_eq_true hk26]; try rfl) ?_
    refine RunR.sil hU [] 2 10 [0, 3, 6, 34, 36] [(0, .bool false), (3, .slice A37 zs9.length c38), (6, .int .i64 e19), (34, .bool true), (36, .pointer (elemAt A37 0 1))] ((True) ∧ ((0 ≤ (0 : Int) ∧ (0 : Int) < ((zs9.length : Nat) : Int)) ∧ Option.isSome A37 = true) ∧ True) rfl (by kernel_rfl) ⟨trivial, ⟨by omega, hp15 (by omega)⟩, trivial⟩ ?_
    refine RunR.step (dst := some 37) (op := .load 5 (.tmp 36)) (by kernel_rfl) (Step.load_num hU 2 (row 5 1 (.slice A37 zs9.length c38) zs9.length (nums .u8 zs9)) A37 0 .u8 zs9 rfl (by kernel_rfl) (by kernel_rfl) (tells_row _ _ _ _ _ _) (by kernel_rfl) (by omega) ?_)
    have hb27 : 0 ≤ zs9.getD ((0 : Int).toNat) 0 ∧ zs9.getD ((0 : Int).toNat) 0 < 256 := hp13.at_ _
    refine RunR.sil hU [] 3 14 [0, 3, 6, 40] [(0, .bool false), (3, .slice A37 zs9.length c38), (6, .int .i64 e19), (40, .bool (decide ((zs9.getD (0 : Int).toNat 0) = 16)))] ((True) ∧ (True) ∧ (True) ∧ True) rfl (by kernel_rfl) ⟨trivial, trivial, trivial, trivial⟩ ?_
    refine RunR.env [0, 3, 6, 40] [(0, .bool false), (3, .slice A37 zs9.length c38), (6, .int .i64 e19), (40, .bool (decide ((zs9.getD (0 : Int).toNat 0) = 16)))] (by kernel_rfl) ?_
    have hk28 : ((zs9.getD (0 : Int).toNat 0) = 16) := by exact awake_at (by assumption) (by omega) (by rw [hz, show i = 32 by omega] <;> rfl) (by decide +kernel)
    refine RunR.enveq [(0, .bool false), (3, .slice A37 zs9.length c38), (6, .int .i64 e19), (40, .bool true)] (by rw [decide_eq_true hk28]; try rfl) ?_
    refine RunR.sil hU [] 2 16 [0, 3, 6, 40, 42] [(0, .bool false), (3, .slice A37 zs9.length c38), (6, .int .i64 e19), (40, .bool true), (42, .pointer (elemAt A37 1 1))] ((True) ∧ ((0 ≤ (1 : Int) ∧ (1 : Int) < ((zs9.length : Nat) : Int)) ∧ Option.isSome A37 = true) ∧ True) rfl (by kernel_rfl) ⟨trivial, ⟨by omega, hp15 (by omega)⟩, trivial⟩ ?_
    refine RunR.step (dst := some 43) (op := .load 5 (.tmp 42)) (by kernel_rfl) (Step.load_num hU 2 (row 5 1 (.slice A37 zs9.length c38) zs9.length (nums .u8 zs9)) A37 1 .u8 zs9 rfl (by kernel_rfl) (by kernel_rfl) (tells_row _ _ _ _ _ _) (by kernel_rfl) (by omega) ?_)
    have hb29 : 0 ≤ zs9.getD ((1 : Int).toNat) 0 ∧ zs9.getD ((1 : Int).toNat) 0 < 256 := hp13.at_ _
    refine RunR.sil hU [] 3 20 [0, 3, 6, 46] [(0, .bool false), (3, .slice A37 zs9.length c38), (6, .int .i64 e19), (46, .bool (decide ((zs9.getD (1 : Int).toNat 0) = 241)))] ((True) ∧ (True) ∧ (True) ∧ True) rfl (by kernel_rfl) ⟨trivial, trivial, trivial, trivial⟩ ?_
    refine RunR.env [0, 3, 6, 46] [(0, .bool false), (3, .slice A37 zs9.length c38), (6, .int .i64 e19), (46, .bool (decide ((zs9.getD (1 : Int).toNat 0) = 241)))] (by kernel_rfl) ?_
    have hk30 : ((zs9.getD (1 : Int).toNat 0) = 241) := by exact awake_at (by assumption) (by omega) (by rw [hz, show i = 32 by omega] <;> rfl) (by decide +kernel)
    refine RunR.enveq [(0, .bool false), (3, .slice A37 zs9.length c38), (6, .int .i64 e19), (46, .bool true)] (by rw [decide_eq_true hk30]; try rfl) ?_
    refine RunR.sil hU [] 2 22 [0, 3, 6, 46, 48] [(0, .bool false), (3, .slice A37 zs9.length c38), (6, .int .i64 e19), (46, .bool true), (48, .pointer (elemAt A37 2 1))] ((True) ∧ ((0 ≤ (2 : Int) ∧ (2 : Int) < ((zs9.length : Nat) : Int)) ∧ Option.isSome A37 = true) ∧ True) rfl (by kernel_rfl) ⟨trivial, ⟨by omega, hp15 (by omega)⟩, trivial⟩ ?_
    refine RunR.step (dst := some 49) (op := .load 5 (.tmp 48)) (by kernel_rfl) (Step.load_num hU 2 (row 5 1 (.slice A37 zs9.length c38) zs9.length (nums .u8 zs9)) A37 2 .u8 zs9 rfl (by kernel_rfl) (by kernel_rfl) (tells_row _ _ _ _ _ _) (by kernel_rfl) (by omega) ?_)
    have hb31 : 0 ≤ zs9.getD ((2 : Int).toNat) 0 ∧ zs9.getD ((2 : Int).toNat) 0 < 256 := hp13.at_ _
    refine RunR.sil hU [] 3 26 [0, 3, 6, 52] [(0, .bool false), (3, .slice A37 zs9.length c38), (6, .int .i64 e19), (52, .bool (decide ((zs9.getD (2 : Int).toNat 0) = 231)))] ((True) ∧ (True) ∧ (True) ∧ True) rfl (by kernel_rfl) ⟨trivial, trivial, trivial, trivial⟩ ?_
    refine RunR.env [0, 3, 6, 52] [(0, .bool false), (3, .slice A37 zs9.length c38), (6, .int .i64 e19), (52, .bool (decide ((zs9.getD (2 : Int).toNat 0) = 231)))] (by kernel_rfl) ?_
    have hk32 : ((zs9.getD (2 : Int).toNat 0) = 231) := by exact awake_at (by assumption) (by omega) (by rw [hz, show i = 32 by omega] <;> rfl) (by decide +kernel)
    refine RunR.enveq [(0, .bool false), (3, .slice A37 zs9.length c38), (6, .int .i64 e19), (52, .bool true)] (by rw [decide_eq_true hk32]; try rfl) ?_
    refine RunR.sil hU [] 2 28 [0, 6, 52, 54] [(0, .bool false), (6, .int .i64 e19), (52, .bool true), (54, .pointer (elemAt A37 3 1))] ((True) ∧ ((0 ≤ (3 : Int) ∧ (3 : Int) < ((zs9.length : Nat) : Int)) ∧ Option.isSome A37 = true) ∧ True) rfl (by kernel_rfl) ⟨trivial, ⟨by omega, hp15 (by omega)⟩, trivial⟩ ?_
    refine RunR.step (dst := some 55) (op := .load 5 (.tmp 54)) (by kernel_rfl) (Step.load_num hU 2 (row 5 1 (.slice A37 zs9.length c38) zs9.length (nums .u8 zs9)) A37 3 .u8 zs9 rfl (by kernel_rfl) (by kernel_rfl) (tells_row _ _ _ _ _ _) (by kernel_rfl) (by omega) ?_)
    have hb33 : 0 ≤ zs9.getD ((3 : Int).toNat) 0 ∧ zs9.getD ((3 : Int).toNat) 0 < 256 := hp13.at_ _
    refine RunR.sil hU [] 3 32 [0, 6, 58] [(0, .bool false), (6, .int .i64 e19), (58, .bool (decide ((zs9.getD (3 : Int).toNat 0) = 228)))] ((True) ∧ (True) ∧ (True) ∧ True) rfl (by kernel_rfl) ⟨trivial, trivial, trivial, trivial⟩ ?_
    refine RunR.env [0, 6, 58] [(0, .bool false), (6, .int .i64 e19), (58, .bool (decide ((zs9.getD (3 : Int).toNat 0) = 228)))] (by kernel_rfl) ?_
    have hk34 : ((zs9.getD (3 : Int).toNat 0) = 228) := by exact awake_at (by assumption) (by omega) (by rw [hz, show i = 32 by omega] <;> rfl) (by decide +kernel)
    refine RunR.enveq [(0, .bool false), (6, .int .i64 e19), (58, .bool true)] (by rw [decide_eq_true hk34]; try rfl) ?_
    refine RunR.sil hU [] 4 36 [0] [(0, .bool (decide (e19 = 1)))] ((True) ∧ (True) ∧ (True) ∧ (True) ∧ True) rfl (by kernel_rfl) ⟨trivial, trivial, trivial, trivial, trivial⟩ ?_
    refine RunR.env [0] [(0, .bool (decide (e19 = 1)))] (by kernel_rfl) ?_
    have hk35 : (e19 = 1) := by first | omega | (simp only [List.length_nil] at *; omega)
    refine RunR.enveq [(0, .bool true)] (by rw [decide_eq_true hk35]; try rfl) ?_
    refine RunR.done (by kernel_rfl) ?_
    refine kseq_n ?_
    refine RunC.ret ?_
    refine kret_r [.bool true] [] [] ⟨rfl, trivial⟩ (by kernel_rfl) rfl ⟨rfl, rfl⟩
end Go.Proofs.Ytoaoabnhkiijpaa.V7
