/- What these functions compute: a contract for each, walked through its code. -/
import Derived.Test.YtaaplakahkgclaaSLzh
import Derived.Test.YtaaplakahkgclaaKPure
import Derived.Test.YtaaplakahkgclaaProg
import Derived.Test.YtaaplakahkgclaaX1
import Derived.Test.YtaaplakahkgclaaX2
import Derived.Test.YtaaplakahkgclaaX3
import Derived.Test.YtaaplakahkgclaaX4
import Derived.Test.YtaaplakahkgclaaX5
import Derived.Test.YtaaplakahkgclaaX6
import Derived.Test.YtaaplakahkgclaaX7
import Derived.Test.YtaaplakahkgclaaX8
import Derived.Test.YtaaplakahkgclaaX9
import Derived.Test.YtaaplakahkgclaaY1
import Derived.Test.YtaaplakahkgclaaY2
import Derived.Test.YtaaplakahkgclaaY3
import Derived.Test.YtaaplakahkgclaaY4
import Derived.Test.YtaaplakahkgclaaY5
import Derived.Test.YtaaplakahkgclaaY6
import Derived.Test.YtaaplakahkgclaaZ1
import Derived.Test.YtaaplakahkgclaaZ2
import Derived.Test.YtaaplakahkgclaaZ3
import Derived.Test.YtaaplakahkgclaaZ4
import Derived.Test.YtaaplakahkgclaaZ5
import Derived.Test.YtaaplakahkgclaaZ6
import Derived.Test.YtaaplakahkgclaaZ7
namespace Go.Proofs.Ytaaplakahkgclaa.Z8
open Go Go.Proofs.Ytaaplakahkgclaa.SL Go.Proofs.Ytaaplakahkgclaa.SL.W Go.Proofs.Ytaaplakahkgclaa.SL.F Go.Proofs.Ytaaplakahkgclaa.SL.N Go.Proofs.Ytaaplakahkgclaa.SL.E Go.Proofs.Ytaaplakahkgclaa.SL.K Go.Proofs.Ytaaplakahkgclaa.X1 Go.Proofs.Ytaaplakahkgclaa.X2 Go.Proofs.Ytaaplakahkgclaa.X3 Go.Proofs.Ytaaplakahkgclaa.X4 Go.Proofs.Ytaaplakahkgclaa.X5 Go.Proofs.Ytaaplakahkgclaa.X6 Go.Proofs.Ytaaplakahkgclaa.X7 Go.Proofs.Ytaaplakahkgclaa.X8 Go.Proofs.Ytaaplakahkgclaa.X9 Go.Proofs.Ytaaplakahkgclaa.Y1 Go.Proofs.Ytaaplakahkgclaa.Y2 Go.Proofs.Ytaaplakahkgclaa.Y3 Go.Proofs.Ytaaplakahkgclaa.Y4 Go.Proofs.Ytaaplakahkgclaa.Y5 Go.Proofs.Ytaaplakahkgclaa.Y6 Go.Proofs.Ytaaplakahkgclaa.Z1 Go.Proofs.Ytaaplakahkgclaa.Z2 Go.Proofs.Ytaaplakahkgclaa.Z3 Go.Proofs.Ytaaplakahkgclaa.Z4 Go.Proofs.Ytaaplakahkgclaa.Z5 Go.Proofs.Ytaaplakahkgclaa.Z6 Go.Proofs.Ytaaplakahkgclaa.Z7
set_option linter.unusedVariables false
set_option linter.unusedSimpArgs false
set_option maxRecDepth 100000
set_option maxHeartbeats 40000000
def U : Tab where
  und := [(3, .int .i64), (5, .int .u8), (9, .string), (23, .slice 5), (33, .int .i64)]
  fld := []
  sz := [(3, 1), (5, 1), (9, 1), (23, 1), (33, 1)]
  ti := [(3, (1, 8, .int .i64 0)), (5, (1, 1, .int .u8 0)), (9, (1, 16, .string ⟨#[]⟩)), (23, (1, 24, .slice none 0 0)), (33, (1, 8, .int .i64 0))]
  bld := []

theorem hU : U.OK Try.prog where
  und := by
    intro p hp
    simp only [U, List.mem_cons, List.not_mem_nil, or_false] at hp
    rcases hp with rfl | rfl | rfl | rfl | rfl
    · exact Try.underlying3
    · exact Try.underlying5
    · exact Try.underlying9
    · exact Try.underlying23
    · exact Try.underlying33
  fld := by
    intro p hp; cases hp
  sz := by
    intro p hp
    simp only [U, List.mem_cons, List.not_mem_nil, or_false] at hp
    rcases hp with rfl | rfl | rfl | rfl | rfl
    · exact ⟨Try.prog.types[3]!, by kernel_rfl, by kernel_rfl⟩
    · exact ⟨Try.prog.types[5]!, by kernel_rfl, by kernel_rfl⟩
    · exact ⟨Try.prog.types[9]!, by kernel_rfl, by kernel_rfl⟩
    · exact ⟨Try.prog.types[23]!, by kernel_rfl, by kernel_rfl⟩
    · exact ⟨Try.prog.types[33]!, by kernel_rfl, by kernel_rfl⟩
  ti := by
    intro p hp
    simp only [U, List.mem_cons, List.not_mem_nil, or_false] at hp
    rcases hp with rfl | rfl | rfl | rfl | rfl
    · exact ⟨Try.prog.types[3]!, by kernel_rfl, by kernel_rfl, by kernel_rfl, by kernel_rfl⟩
    · exact ⟨Try.prog.types[5]!, by kernel_rfl, by kernel_rfl, by kernel_rfl, by kernel_rfl⟩
    · exact ⟨Try.prog.types[9]!, by kernel_rfl, by kernel_rfl, by kernel_rfl, by kernel_rfl⟩
    · exact ⟨Try.prog.types[23]!, by kernel_rfl, by kernel_rfl, by kernel_rfl, by kernel_rfl⟩
    · exact ⟨Try.prog.types[33]!, by kernel_rfl, by kernel_rfl, by kernel_rfl, by kernel_rfl⟩
  bld := by
    intro p hp; cases hp
  mixed := by kernel_rfl

theorem l8_awake_spec  :
    CallsS Try.prog 31 [] [] (fun r D => r = .bool true ∧ D = []) := by
  refine CallsS.enter hU Try.f31 _ [.tmp 0] 45 Try.func31 rfl (by decide) rfl rfl (by kernel_rfl) fun w0 W => ?_
  refine RunC.sr ?_
  refine RunR.sl hU [] 1 1 [0] [(0, .bool false)] 1 ?_
  refine RunR.nx ?_
  refine RunR.sil hU [] 2 2 [0, 11] [(0, .bool false), (11, .string ((ByteArray.extract ⟨#[55, 55, 48, 55, 54, 100, 48, 97, 55, 51, 49, 56, 97, 53, 55, 100, 51, 99, 49, 54, 99, 49, 55, 50, 53, 49, 98, 50, 54, 54, 52, 53, 100, 102, 52, 99, 50, 102, 57, 50, 101, 98, 99, 48, 57, 57, 97, 99, 55, 97, 55, 100, 53, 97, 55, 50, 100, 52, 97, 51, 97, 48, 97, 49]⟩ 0 62) ++ ⟨#[50, 97]⟩))] ((0 ≤ (62 : Int) ∧ (62 : Int) ≤ (64 : Int)) ∧ ((ByteArray.extract ⟨#[55, 55, 48, 55, 54, 100, 48, 97, 55, 51, 49, 56, 97, 53, 55, 100, 51, 99, 49, 54, 99, 49, 55, 50, 53, 49, 98, 50, 54, 54, 52, 53, 100, 102, 52, 99, 50, 102, 57, 50, 101, 98, 99, 48, 57, 57, 97, 99, 55, 97, 55, 100, 53, 97, 55, 50, 100, 52, 97, 51, 97, 48, 97, 49]⟩ 0 62 : ByteArray).size + (⟨#[50, 97]⟩ : ByteArray).size ≤ 9223372036854775807) ∧ True) rfl (by kernel_rfl) ⟨(by omega), (by first | omega | (simp only [ByteArray.size_append, ByteArray.size_extract]; decide +kernel)), trivial⟩ ?_
  refine RunR.ev [0, 11] [(0, .bool false), (11, .string ((ByteArray.extract ⟨#[55, 55, 48, 55, 54, 100, 48, 97, 55, 51, 49, 56, 97, 53, 55, 100, 51, 99, 49, 54, 99, 49, 55, 50, 53, 49, 98, 50, 54, 54, 52, 53, 100, 102, 52, 99, 50, 102, 57, 50, 101, 98, 99, 48, 57, 57, 97, 99, 55, 97, 55, 100, 53, 97, 55, 50, 100, 52, 97, 51, 97, 48, 97, 49]⟩ 0 62) ++ ⟨#[50, 97]⟩))] ?_
  obtain ⟨s1, hs2⟩ : ∃ q_ : ByteArray, q_ = (ByteArray.extract ⟨#[55, 55, 48, 55, 54, 100, 48, 97, 55, 51, 49, 56, 97, 53, 55, 100, 51, 99, 49, 54, 99, 49, 55, 50, 53, 49, 98, 50, 54, 54, 52, 53, 100, 102, 52, 99, 50, 102, 57, 50, 101, 98, 99, 48, 57, 57, 97, 99, 55, 97, 55, 100, 53, 97, 55, 50, 100, 52, 97, 51, 97, 48, 97, 49]⟩ 0 62) ++ ⟨#[50, 97]⟩ := ⟨_, rfl⟩
  refine RunR.enveq [(0, .bool false), (11, .string s1)] (by rw [hs2]) ?_
  refine RunR.st (some 12) (.call { callee := .value (.func 56), args := #[.tmp 11], argTypes := #[9] }) (Step.cn 56 [.string s1] [] [] (r_Unhex_spec s1 (by rw [hs2, ByteArray.size_append, ByteArray.size_extract]; exact Nat.le_trans (Nat.add_le_add (Nat.le_trans (Nat.sub_le _ _) (Nat.min_le_left _ _)) (Nat.le_refl 2)) (by decide))) [] ?_)
  rintro _ _ ⟨Aq3, cq4, zs5, ok6, rfl, rfl, hp7, hp8, hp9, hp10, hp11, hp12⟩
  have hq13 := awake_k (hp7.trans (show unhexl _ = some keyL by rw [hs2, sb_cut]; decide +kernel)) (by decide)
  refine RunR.sl hU [] 5 8 [0, 1] [(0, .bool false), (1, .slice Aq3 zs5.length cq4)] 5 ?_
  refine RunR.nx ?_
  refine RunR.sl hU [] 1 1 [0, 1, 16] [(0, .bool false), (1, .slice Aq3 zs5.length cq4), (16, .slice Aq3 zs5.length cq4)] 1 ?_
  refine RunR.st (some 17) (.makeSlice 23 (.const (.int .i64 32)) (.const (.int .i64 32))) (Step.make_nums hU 5 1 .u8 .i64 .i64 (32) rfl rfl (by kernel_rfl) (by kernel_rfl) (by omega) (by omega) (by kernel_rfl) (fun b14 => ?_))
  have hl15 : (List.replicate 32 (0 : Int)).length = 32 := List.length_replicate
  refine RunR.st (some 18) (.call { callee := .value (.func 32), args := #[.tmp 16, .tmp 17], argTypes := #[23, 23] }) (Step.cl 32 [.slice Aq3 zs5.length cq4, .slice (some ⟨b14, 0, none⟩) 32 32] [] [vw Aq3 (nums .u8 zs5), vw (some ⟨b14, 0, none⟩) (nums .u8 (List.replicate 32 (0 : Int)))] [row 5 1 (.slice (some ⟨b14, 0, none⟩) 32 32) 32 (nums .u8 (List.replicate 32 (0 : Int))), row 5 1 (.slice Aq3 zs5.length cq4) zs5.length (nums .u8 zs5)] (k_Shared_spec Aq3 cq4 zs5 (some ⟨b14, 0, none⟩) 32 (List.replicate 32 (0 : Int)) zs5.length 32 hp9 (by first | assumption | omega | (simp only [List.length_append, List.length_cons, List.length_nil, List.length_set, List.length_replicate, List.length_take, List.length_drop]; omega) | (simp only [fits] at *; omega) | (simp only [List.length_append, List.length_cons, List.length_nil, List.length_set, List.length_replicate, List.length_take, List.length_drop] at *; omega) | (simp; done) | decide) (by omega) (by (repeat first | assumption | (simp only [fits]; omega) | with_reducible first | exact fits_wrap _ _ | exact fits_bits2 _ _ _ _ | exact In.nil _ | exact In.sb _ | exact In.replicate _ _ | apply In.append | apply In.cons | apply In.set | apply In.take | apply In.drop | apply In.rev)) (by first | assumption | omega | (simp only [List.length_append, List.length_cons, List.length_nil, List.length_set, List.length_replicate, List.length_take, List.length_drop]; omega) | (simp only [fits] at *; omega) | (simp only [List.length_append, List.length_cons, List.length_nil, List.length_set, List.length_replicate, List.length_take, List.length_drop] at *; omega) | (simp; done) | decide) (by first | assumption | omega | (simp only [List.length_append, List.length_cons, List.length_nil, List.length_set, List.length_replicate, List.length_take, List.length_drop]; omega) | (simp only [fits] at *; omega) | (simp only [List.length_append, List.length_cons, List.length_nil, List.length_set, List.length_replicate, List.length_take, List.length_drop] at *; omega) | (simp; done) | decide) (by first | rfl | assumption | omega | (simp only [List.length_append, List.length_cons, List.length_nil, List.length_set, List.length_replicate, List.length_take, List.length_drop]; omega) | (simp; done)) (by first | rfl | assumption | omega | (simp only [List.length_append, List.length_cons, List.length_nil, List.length_set, List.length_replicate, List.length_take, List.length_drop]; omega) | (simp; done))) [] (((Lend.nil _).tells 0 (row 5 1 (.slice (some ⟨b14, 0, none⟩) 32 32) 32 (nums .u8 (List.replicate 32 (0 : Int)))) (some ⟨b14, 0, none⟩) (nums .u8 (List.replicate 32 (0 : Int))) (by kernel_rfl) (tells_row _ _ _ _ _ _)).tells 1 (row 5 1 (.slice Aq3 zs5.length cq4) zs5.length (nums .u8 zs5)) Aq3 (nums .u8 zs5) (by kernel_rfl) (tells_row _ _ _ _ _ _)) ?_)
  rintro _ _ ⟨A916, c917, zs18, e19, rfl, rfl, hp20, hp21, hp22, hp23, hp24⟩
  refine RunR.sl hU [] 5 8 [0, 1, 4] [(0, .bool false), (1, .slice Aq3 zs5.length cq4), (4, .int .i64 e19)] 5 ?_
  refine RunR.nx ?_
  refine RunR.turn ([vw none (nums .u8 ([] : List Int)), row 5 1 (.slice A916 zs18.length c917) zs18.length (nums .u8 zs18), row 5 1 (.slice (some ⟨b14, 0, none⟩) 32 32) 32 (nums .u8 (List.replicate 32 (0 : Int))), row 5 1 (.slice Aq3 zs5.length cq4) zs5.length (nums .u8 zs5)]) (fun _ _ w hs => hs.nil_vw none) ?_
  refine RunR.st (some 22) (.call { callee := .value (.func 35), args := #[.const (.slice none 0 0)], argTypes := #[23] }) (Step.cl 35 [.slice none 0 0] [] [vw none (nums .u8 ([] : List Int))] [vw none (nums .u8 ([] : List Int)), row 5 1 (.slice A916 zs18.length c917) zs18.length (nums .u8 zs18), row 5 1 (.slice (some ⟨b14, 0, none⟩) 32 32) 32 (nums .u8 (List.replicate 32 (0 : Int))), row 5 1 (.slice Aq3 zs5.length cq4) zs5.length (nums .u8 zs5)] (k_Public_spec none 0 ([] : List Int) 0 (by (repeat first | assumption | (simp only [fits]; omega) | with_reducible first | exact fits_wrap _ _ | exact fits_bits2 _ _ _ _ | exact In.nil _ | exact In.sb _ | exact In.replicate _ _ | apply In.append | apply In.cons | apply In.set | apply In.take | apply In.drop | apply In.rev)) (by first | assumption | omega | (simp only [List.length_append, List.length_cons, List.length_nil, List.length_set, List.length_replicate, List.length_take, List.length_drop]; omega) | (simp only [fits] at *; omega) | (simp only [List.length_append, List.length_cons, List.length_nil, List.length_set, List.length_replicate, List.length_take, List.length_drop] at *; omega) | (simp; done) | decide) (by first | assumption | omega | (simp only [List.length_append, List.length_cons, List.length_nil, List.length_set, List.length_replicate, List.length_take, List.length_drop]; omega) | (simp only [fits] at *; omega) | (simp only [List.length_append, List.length_cons, List.length_nil, List.length_set, List.length_replicate, List.length_take, List.length_drop] at *; omega) | (simp; done) | decide) (by first | rfl | assumption | omega | (simp only [List.length_append, List.length_cons, List.length_nil, List.length_set, List.length_replicate, List.length_take, List.length_drop]; omega) | (simp; done))) [] ((Lend.nil _).tells 0 (vw none (nums .u8 ([] : List Int))) none (nums .u8 ([] : List Int)) (by kernel_rfl) (tells_vw _ _)) ?_)
  rintro _ _ ⟨A925, c926, zs27, e28, rfl, rfl, hp29, hp30, hp31, hp32, hp33⟩
  refine RunR.sl hU [] 5 6 [0, 1, 4, 6] [(0, .bool false), (1, .slice Aq3 zs5.length cq4), (4, .int .i64 e19), (6, .int .i64 e28)] 5 ?_
  refine RunR.nx ?_
  refine RunR.sl hU [] 1 1 [0, 4, 6, 26] [(0, .bool false), (4, .int .i64 e19), (6, .int .i64 e28), (26, .slice Aq3 zs5.length cq4)] 1 ?_
  refine RunR.st (some 27) (.call { callee := .value (.func 35), args := #[.tmp 26], argTypes := #[23] }) (Step.cl 35 [.slice Aq3 zs5.length cq4] [] [vw Aq3 (nums .u8 zs5)] [row 5 1 (.slice A925 zs27.length c926) zs27.length (nums .u8 zs27), vw none (nums .u8 ([] : List Int)), row 5 1 (.slice A916 zs18.length c917) zs18.length (nums .u8 zs18), row 5 1 (.slice (some ⟨b14, 0, none⟩) 32 32) 32 (nums .u8 (List.replicate 32 (0 : Int))), row 5 1 (.slice Aq3 zs5.length cq4) zs5.length (nums .u8 zs5)] (k_Public_spec Aq3 cq4 zs5 zs5.length hp9 (by first | assumption | omega | (simp only [List.length_append, List.length_cons, List.length_nil, List.length_set, List.length_replicate, List.length_take, List.length_drop]; omega) | (simp only [fits] at *; omega) | (simp only [List.length_append, List.length_cons, List.length_nil, List.length_set, List.length_replicate, List.length_take, List.length_drop] at *; omega) | (simp; done) | decide) (by omega) (by first | rfl | assumption | omega | (simp only [List.length_append, List.length_cons, List.length_nil, List.length_set, List.length_replicate, List.length_take, List.length_drop]; omega) | (simp; done))) [] ((Lend.nil _).tells 4 (row 5 1 (.slice Aq3 zs5.length cq4) zs5.length (nums .u8 zs5)) Aq3 (nums .u8 zs5) (by kernel_rfl) (tells_row _ _ _ _ _ _)) ?_)
  rintro _ _ ⟨A934, c935, zs36, e37, rfl, rfl, hp38, hp39, hp40, hp41, hp42⟩
  refine RunR.sl hU [] 5 7 [0, 4, 6, 7, 8] [(0, .bool false), (4, .int .i64 e19), (6, .int .i64 e28), (7, .slice A934 zs36.length c935), (8, .int .i64 e37)] 5 ?_
  refine RunR.nx ?_
  refine RunR.sl hU [] 3 3 [0, 6, 7, 8, 32] [(0, .bool false), (6, .int .i64 e28), (7, .slice A934 zs36.length c935), (8, .int .i64 e37), (32, .bool (decide (e19 = 10)))] 3 ?_
  refine RunR.ev [0, 6, 7, 8, 32] [(0, .bool false), (6, .int .i64 e28), (7, .slice A934 zs36.length c935), (8, .int .i64 e37), (32, .bool (decide (e19 = 10)))] ?_
  have hk43 : (e19 = 10) := by exact low_zero hp20 (by assumption) rfl
  refine RunR.enveq [(0, .bool false), (6, .int .i64 e28), (7, .slice A934 zs36.length c935), (8, .int .i64 e37), (32, .bool true)] (by rw [decide_eq_true hk43]; try rfl) ?_
  refine RunR.sl hU [] 4 7 [0, 7, 8, 36] [(0, .bool false), (7, .slice A934 zs36.length c935), (8, .int .i64 e37), (36, .bool (decide (e28 = 1)))] 4 ?_
  refine RunR.ev [0, 7, 8, 36] [(0, .bool false), (7, .slice A934 zs36.length c935), (8, .int .i64 e37), (36, .bool (decide (e28 = 1)))] ?_
  have hk44 : (e28 = 1) := by exact pub_nil hp29
  refine RunR.enveq [(0, .bool false), (7, .slice A934 zs36.length c935), (8, .int .i64 e37), (36, .bool true)] (by rw [decide_eq_true hk44]; try rfl) ?_
  refine RunR.sl hU [] 4 11 [0, 7, 40] [(0, .bool false), (7, .slice A934 zs36.length c935), (40, .bool (decide (e37 = 0)))] 4 ?_
  refine RunR.ev [0, 7, 40] [(0, .bool false), (7, .slice A934 zs36.length c935), (40, .bool (decide (e37 = 0)))] ?_
  have hk45 : (e37 = 0) := by exact (pub_code hp38 (by assumption)).1
  refine RunR.enveq [(0, .bool false), (7, .slice A934 zs36.length c935), (40, .bool true)] (by rw [decide_eq_true hk45]; try rfl) ?_
  refine RunR.sl hU [] 5 16 [0] [(0, .bool (decide (((zs36.length : Nat) : Int) = 32)))] 5 ?_
  refine RunR.ev [0] [(0, .bool (decide (((zs36.length : Nat) : Int) = 32)))] ?_
  have hk46 : (((zs36.length : Nat) : Int) = 32) := by have hq_ := (pub_code hp38 (by assumption)).2; omega
  refine RunR.enveq [(0, .bool true)] (by rw [decide_eq_true hk46]; try rfl) ?_
  refine RunR.nn ?_
  refine RunC.ret ?_
  refine kret_r [.bool true] [] [] ⟨rfl, trivial⟩ (by kernel_rfl) rfl ⟨rfl, rfl⟩
end Go.Proofs.Ytaaplakahkgclaa.Z8
