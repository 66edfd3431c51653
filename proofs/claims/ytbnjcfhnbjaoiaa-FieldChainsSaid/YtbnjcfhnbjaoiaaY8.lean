/- What these functions compute: a contract for each, walked through its code. -/
import Derived.Test.YtbnjcfhnbjaoiaaEPure
import Derived.Test.YtbnjcfhnbjaoiaaProg
import Derived.Test.YtbnjcfhnbjaoiaaX1
import Derived.Test.YtbnjcfhnbjaoiaaX2
import Derived.Test.YtbnjcfhnbjaoiaaX3
import Derived.Test.YtbnjcfhnbjaoiaaX4
import Derived.Test.YtbnjcfhnbjaoiaaX5
import Derived.Test.YtbnjcfhnbjaoiaaX6
import Derived.Test.YtbnjcfhnbjaoiaaX7
import Derived.Test.YtbnjcfhnbjaoiaaX8
import Derived.Test.YtbnjcfhnbjaoiaaX9
import Derived.Test.YtbnjcfhnbjaoiaaY1
import Derived.Test.YtbnjcfhnbjaoiaaY2
import Derived.Test.YtbnjcfhnbjaoiaaY3
import Derived.Test.YtbnjcfhnbjaoiaaY4
import Derived.Test.YtbnjcfhnbjaoiaaY5
import Derived.Test.YtbnjcfhnbjaoiaaY6
import Derived.Test.YtbnjcfhnbjaoiaaY7
namespace Go.Proofs.Ytbnjcfhnbjaoiaa.Y8
open Go Go.Proofs.Ytbnjcfhnbjaoiaa.SL Go.Proofs.Ytbnjcfhnbjaoiaa.SL.W Go.Proofs.Ytbnjcfhnbjaoiaa.SL.F Go.Proofs.Ytbnjcfhnbjaoiaa.SL.N Go.Proofs.Ytbnjcfhnbjaoiaa.SL.E Go.Proofs.Ytbnjcfhnbjaoiaa.X1 Go.Proofs.Ytbnjcfhnbjaoiaa.X2 Go.Proofs.Ytbnjcfhnbjaoiaa.X3 Go.Proofs.Ytbnjcfhnbjaoiaa.X4 Go.Proofs.Ytbnjcfhnbjaoiaa.X5 Go.Proofs.Ytbnjcfhnbjaoiaa.X6 Go.Proofs.Ytbnjcfhnbjaoiaa.X7 Go.Proofs.Ytbnjcfhnbjaoiaa.X8 Go.Proofs.Ytbnjcfhnbjaoiaa.X9 Go.Proofs.Ytbnjcfhnbjaoiaa.Y1 Go.Proofs.Ytbnjcfhnbjaoiaa.Y2 Go.Proofs.Ytbnjcfhnbjaoiaa.Y3 Go.Proofs.Ytbnjcfhnbjaoiaa.Y4 Go.Proofs.Ytbnjcfhnbjaoiaa.Y5 Go.Proofs.Ytbnjcfhnbjaoiaa.Y6 Go.Proofs.Ytbnjcfhnbjaoiaa.Y7
set_option linter.unusedVariables false
set_option linter.unusedSimpArgs false
set_option maxRecDepth 100000
set_option maxHeartbeats 40000000
def U : Tab where
  und := [(3, .int .i64), (5, .int .u8), (22, .slice 5)]
  fld := []
  sz := [(3, 1), (5, 1), (22, 1)]
  ti := [(3, (1, 8, .int .i64 0)), (5, (1, 1, .int .u8 0)), (22, (1, 24, .slice none 0 0))]
  bld := []

theorem hU : U.OK Try.prog where
  und := by
    intro p hp
    simp only [U, List.mem_cons, List.not_mem_nil, or_false] at hp
    rcases hp with rfl | rfl | rfl
    · exact Try.underlying3
    · exact Try.underlying5
    · exact Try.underlying22
  fld := by
    intro p hp; cases hp
  sz := by
    intro p hp
    simp only [U, List.mem_cons, List.not_mem_nil, or_false] at hp
    rcases hp with rfl | rfl | rfl
    · exact ⟨Try.prog.types[3]!, by kernel_rfl, by kernel_rfl⟩
    · exact ⟨Try.prog.types[5]!, by kernel_rfl, by kernel_rfl⟩
    · exact ⟨Try.prog.types[22]!, by kernel_rfl, by kernel_rfl⟩
  ti := by
    intro p hp
    simp only [U, List.mem_cons, List.not_mem_nil, or_false] at hp
    rcases hp with rfl | rfl | rfl
    · exact ⟨Try.prog.types[3]!, by kernel_rfl, by kernel_rfl, by kernel_rfl, by kernel_rfl⟩
    · exact ⟨Try.prog.types[5]!, by kernel_rfl, by kernel_rfl, by kernel_rfl, by kernel_rfl⟩
    · exact ⟨Try.prog.types[22]!, by kernel_rfl, by kernel_rfl, by kernel_rfl, by kernel_rfl⟩
  bld := by
    intro p hp; cases hp
  mixed := by kernel_rfl

theorem l7_awake_spec  :
    CallsS Try.prog 13 [] [] (fun r D => r = .bool true ∧ D = []) := by
  refine CallsS.enter hU Try.f13 _ [.tmp 0] 48 Try.func13 rfl (by decide) rfl rfl (by kernel_rfl) fun w0 W => ?_
  refine RunC.seq ?_
  refine RunC.region ?_
  refine RunR.sil hU [] 1 1 [0] [(0, .bool false)] ((True) ∧ True) rfl (by kernel_rfl) ⟨trivial, trivial⟩ ?_
  refine RunR.done (by kernel_rfl) ?_
  refine kseq_n ?_
  refine RunC.seq ?_
  refine RunC.region ?_
  refine RunR.step (dst := some 5) (op := .makeSlice 22 (.const (.int .i64 32)) (.const (.int .i64 32))) (by kernel_rfl) (Step.make_nums hU 5 1 .u8 .i64 .i64 (32) rfl rfl (by kernel_rfl) (by kernel_rfl) (by omega) (by omega) (by kernel_rfl) (fun b1 => ?_))
  have hl2 : (List.replicate 32 (0 : Int)).length = 32 := List.length_replicate
  refine RunR.sil hU [] 1 2 [0, 1] [(0, .bool false), (1, .slice (some ⟨b1, 0, none⟩) 32 32)] ((True) ∧ True) rfl (by kernel_rfl) ⟨trivial, trivial⟩ ?_
  refine RunR.done (by kernel_rfl) ?_
  refine kseq_n ?_
  refine RunC.seq ?_
  refine RunC.seq ?_
  refine RunC.region ?_
  refine RunR.sil hU [] 1 1 [0, 1, 2] [(0, .bool false), (1, .slice (some ⟨b1, 0, none⟩) 32 32), (2, .int .i64 0)] ((True) ∧ True) rfl (by kernel_rfl) ⟨trivial, trivial⟩ ?_
  refine RunR.done (by kernel_rfl) ?_
  refine kseq_n ?_
  refine RunC.block ?_
  refine RunC.env [0, 1, 2] [(0, .bool false), (1, .slice (some ⟨b1, 0, none⟩) 32 32), (2, .int .i64 0)] (by kernel_rfl) ?_
  refine RunC.only [0] [row 5 1 (.slice (some ⟨b1, 0, none⟩) 32 32) 32 (nums .u8 (List.replicate 32 (0 : Int)))] (by kernel_rfl) ?_
  refine RunC.loop (σ := Nat) (fun n_ t_ D_ => ∃ (i : Int) (bs : List Int), (0 ≤ i) ∧ (i ≤ 32) ∧ (bs = mapP (fun _ => 255) (List.replicate 32 0) i.toNat) ∧ (bs.length = 32) ∧ (In .u8 bs) ∧ n_ = ((32 - i).toNat : Nat) ∧ t_ = [(0, .bool false), (1, .slice (some ⟨b1, 0, none⟩) 32 32), (2, .int .i64 i)] ∧ D_ = [row 5 1 (.slice (some ⟨b1, 0, none⟩) 32 32) 32 (nums .u8 bs)]) id _ ⟨0, (List.replicate 32 (0 : Int)), (by first | assumption | omega | (simp only [List.length_append, List.length_cons, List.length_nil, List.length_set, List.length_replicate, List.length_take, List.length_drop]; omega) | (simp only [fits] at *; omega) | (simp only [List.length_append, List.length_cons, List.length_nil, List.length_set, List.length_replicate, List.length_take, List.length_drop] at *; omega) | (simp; done) | decide), (by first | assumption | omega | (simp only [List.length_append, List.length_cons, List.length_nil, List.length_set, List.length_replicate, List.length_take, List.length_drop]; omega) | (simp only [fits] at *; omega) | (simp only [List.length_append, List.length_cons, List.length_nil, List.length_set, List.length_replicate, List.length_take, List.length_drop] at *; omega) | (simp; done) | decide), (by rfl), (by rfl), (by exact In.replicate _ _), rfl, rfl, rfl⟩ ?_
  rintro n_ _ _ ⟨i, bs, hi, hi2, hbs, hbl, hbi, rfl, rfl, rfl⟩
  refine RunC.seq ?_
  refine RunC.seq ?_
  refine RunC.region ?_
  refine RunR.sil hU [] 2 2 [0, 1, 2, 7] [(0, .bool false), (1, .slice (some ⟨b1, 0, none⟩) 32 32), (2, .int .i64 i), (7, .bool (decide (i < 32)))] ((True) ∧ (True) ∧ True) rfl (by kernel_rfl) ⟨trivial, trivial, trivial⟩ ?_
  refine RunR.done (by kernel_rfl) ?_
  refine kseq_n ?_
  refine RunC.condp (i < 32) (by kernel_rfl) (fun h3 => ?_) (fun h3 => ?_)
  · skip
    refine RunC.skip ?_
    refine kseq_n ?_
    refine RunC.seq ?_
    refine RunC.block ?_
    refine RunC.region ?_
    refine RunR.sil hU [] 3 3 [0, 1, 2, 12] [(0, .bool false), (1, .slice (some ⟨b1, 0, none⟩) 32 32), (2, .int .i64 i), (12, .pointer (elemAt (some ⟨b1, 0, none⟩) i 1))] ((True) ∧ (True) ∧ ((0 ≤ i ∧ i < ((32 : Nat) : Int)) ∧ Option.isSome (some ⟨b1, 0, none⟩ : Option Addr) = true) ∧ True) rfl (by kernel_rfl) ⟨trivial, trivial, ⟨by omega, rfl⟩, trivial⟩ ?_
    refine RunR.step (dst := none) (op := .store 5 (.tmp 12) (.const (.int .u8 255))) (by kernel_rfl) (Step.store_num hU 0 5 32 32 (some ⟨b1, 0, none⟩) .u8 bs i 255 (by kernel_rfl) (by kernel_rfl) (by kernel_rfl) rfl (by omega) ?_)
    have hl4 : (bs.set (i).toNat 255).length = bs.length := List.length_set
    refine RunR.done (by kernel_rfl) ?_
    refine kblock_n ?_
    refine kseq_n ?_
    refine RunC.region ?_
    refine RunR.sil hU [1] 3 3 [0, 1, 2] [(0, .bool false), (1, .slice (some ⟨b1, 0, none⟩) 32 32), (2, .int .i64 (i + 1))] ((True) ∧ (-9223372036854775808 ≤ (i + 1) ∧ (i + 1) < 9223372036854775808) ∧ (True) ∧ True) rfl (by kernel_rfl) ⟨trivial, (by omega), trivial, trivial⟩ ?_
    refine RunR.done (by kernel_rfl) ?_
    refine kloop_n _ [0, 1, 2] [0] [(0, .bool false), (1, .slice (some ⟨b1, 0, none⟩) 32 32), (2, .int .i64 (i + 1))] [row 5 1 (.slice (some ⟨b1, 0, none⟩) 32 32) 32 (nums .u8 (bs.set (i).toNat 255))] (by kernel_rfl) (by kernel_rfl) ?_ ⟨(i + 1), (bs.set (i).toNat 255), (by first | assumption | omega | (simp only [List.length_append, List.length_cons, List.length_nil, List.length_set, List.length_replicate, List.length_take, List.length_drop]; omega) | (simp only [fits] at *; omega) | (simp only [List.length_append, List.length_cons, List.length_nil, List.length_set, List.length_replicate, List.length_take, List.length_drop] at *; omega) | (simp; done) | decide), (by first | assumption | omega | (simp only [List.length_append, List.length_cons, List.length_nil, List.length_set, List.length_replicate, List.length_take, List.length_drop]; omega) | (simp only [fits] at *; omega) | (simp only [List.length_append, List.length_cons, List.length_nil, List.length_set, List.length_replicate, List.length_take, List.length_drop] at *; omega) | (simp; done) | decide), (by rw [hbs]; exact prime_step (by omega) (by omega)), (by rw [List.length_set]; exact hbl), (by exact In.set hbi _ (by simp only [fits]; omega)), rfl, (by first | rfl | simp only [List.length_set]), (by first | rfl | simp only [List.length_set])⟩
    show ((32 - (i + 1)).toNat : Nat) < ((32 - i).toNat : Nat)
    omega
  · skip
    refine RunC.exit ?_
    refine kseq_e ?_
    refine kloop_e ?_
    refine kblock_e ?_
    refine kseq_n ?_
    refine RunC.seq ?_
    refine RunC.region ?_
    refine RunR.sil hU [] 1 1 [0, 13] [(0, .bool false), (13, .slice (some ⟨b1, 0, none⟩) 32 32)] ((True) ∧ True) rfl (by kernel_rfl) ⟨trivial, trivial⟩ ?_
    refine RunR.step (dst := some 14) (op := .call { callee := .value (.func 14), args := #[.tmp 13], argTypes := #[22] }) (by kernel_rfl) (Step.call 14 [.slice (some ⟨b1, 0, none⟩) 32 32] (by kernel_rfl) (by kernel_rfl) [] [vw (some ⟨b1, 0, none⟩) (nums .u8 bs)] [row 5 1 (.slice (some ⟨b1, 0, none⟩) 32 32) 32 (nums .u8 bs)] (f_From_spec (some ⟨b1, 0, none⟩) 32 bs 32 hbi (by first | assumption | omega | (simp only [List.length_append, List.length_cons, List.length_nil, List.length_set, List.length_replicate, List.length_take, List.length_drop]; omega) | (simp only [fits] at *; omega) | (simp only [List.length_append, List.length_cons, List.length_nil, List.length_set, List.length_replicate, List.length_take, List.length_drop] at *; omega) | (simp; done) | decide) (by first | rfl | assumption | omega | (simp only [List.length_append, List.length_cons, List.length_nil, List.length_set, List.length_replicate, List.length_take, List.length_drop]; omega) | (simp; done))) [] (by kernel_rfl) ((Lend.nil _).tells 0 (row 5 1 (.slice (some ⟨b1, 0, none⟩) 32 32) 32 (nums .u8 bs)) (some ⟨b1, 0, none⟩) (nums .u8 bs) (by kernel_rfl) (tells_row _ _ _ _ _ _)) ?_)
    rintro _ _ ⟨zs5, rfl, rfl, hp6, hp7⟩
    refine RunR.step (dst := some 15) (op := .call { callee := .value (.func 17), args := #[.tmp 14], argTypes := #[27] }) (by kernel_rfl) (Step.call 17 [.agg (nums .u64 zs5).toArray] (by kernel_rfl) (by kernel_rfl) [] [] [row 5 1 (.slice (some ⟨b1, 0, none⟩) 32 32) 32 (nums .u8 bs)] (f_Bytes_spec zs5 (fromV bs % P) (by first | assumption | omega | (simp only [List.length_append, List.length_cons, List.length_nil, List.length_set, List.length_replicate, List.length_take, List.length_drop]; omega) | (simp only [fits] at *; omega) | (simp only [List.length_append, List.length_cons, List.length_nil, List.length_set, List.length_replicate, List.length_take, List.length_drop] at *; omega) | (simp; done) | decide) (by first | rfl | assumption | omega | (simp only [List.length_append, List.length_cons, List.length_nil, List.length_set, List.length_replicate, List.length_take, List.length_drop]; omega) | (simp; done))) [] (by kernel_rfl) (Lend.nil _) ?_)
    rintro _ _ ⟨Aq8, cb9, zs10, rfl, rfl, hp11, hp12, hp13, hp14, hp15⟩
    refine RunR.sil hU [] 1 4 [0, 3] [(0, .bool false), (3, .slice Aq8 zs10.length cb9)] ((True) ∧ True) rfl (by kernel_rfl) ⟨trivial, trivial⟩ ?_
    refine RunR.done (by kernel_rfl) ?_
    refine kseq_n ?_
    refine RunC.seq ?_
    refine RunC.region ?_
    refine RunR.step (dst := some 16) (op := .buildSlice 22 1 #[(0, .const (.int .u8 2))]) (by kernel_rfl) (Step.lit_nums hU 5 1 .u8 (.int .u8 0) ([2] : List Int) rfl rfl (by kernel_rfl) rfl rfl (by kernel_rfl) (fun b16 => ?_))
    have hl17 : (([2] : List Int)).length = 1 := rfl
    refine RunR.step (dst := some 17) (op := .call { callee := .value (.func 14), args := #[.tmp 16], argTypes := #[22] }) (by kernel_rfl) (Step.call 14 [.slice (some ⟨b16, 0, none⟩) 1 1] (by kernel_rfl) (by kernel_rfl) [] [vw (some ⟨b16, 0, none⟩) (nums .u8 ([2] : List Int))] [row 5 1 (.slice (some ⟨b16, 0, none⟩) 1 1) 1 (nums .u8 ([2] : List Int)), row 5 1 (.slice Aq8 zs10.length cb9) zs10.length (nums .u8 zs10), row 5 1 (.slice (some ⟨b1, 0, none⟩) 32 32) 32 (nums .u8 bs)] (f_From_spec (some ⟨b16, 0, none⟩) 1 ([2] : List Int) 1 (by (repeat first | assumption | (simp only [fits]; omega) | with_reducible first | exact fits_wrap _ _ | exact fits_bits2 _ _ _ _ | exact In.nil _ | exact In.sb _ | exact In.replicate _ _ | apply In.append | apply In.cons | apply In.set | apply In.take | apply In.drop | apply In.rev)) (by first | assumption | omega | (simp only [List.length_append, List.length_cons, List.length_nil, List.length_set, List.length_replicate, List.length_take, List.length_drop]; omega) | (simp only [fits] at *; omega) | (simp only [List.length_append, List.length_cons, List.length_nil, List.length_set, List.length_replicate, List.length_take, List.length_drop] at *; omega) | (simp; done) | decide) (by first | rfl | assumption | omega | (simp only [List.length_append, List.length_cons, List.length_nil, List.length_set, List.length_replicate, List.length_take, List.length_drop]; omega) | (simp; done))) [] (by kernel_rfl) ((Lend.nil _).tells 0 (row 5 1 (.slice (some ⟨b16, 0, none⟩) 1 1) 1 (nums .u8 ([2] : List Int))) (some ⟨b16, 0, none⟩) (nums .u8 ([2] : List Int)) (by kernel_rfl) (tells_row _ _ _ _ _ _)) ?_)
    rintro _ _ ⟨zs18, rfl, rfl, hp19, hp20⟩
    refine RunR.step (dst := some 18) (op := .buildSlice 22 1 #[(0, .const (.int .u8 3))]) (by kernel_rfl) (Step.lit_nums hU 5 1 .u8 (.int .u8 0) ([3] : List Int) rfl rfl (by kernel_rfl) rfl rfl (by kernel_rfl) (fun b21 => ?_))
    have hl22 : (([3] : List Int)).length = 1 := rfl
    refine RunR.step (dst := some 19) (op := .call { callee := .value (.func 14), args := #[.tmp 18], argTypes := #[22] }) (by kernel_rfl) (Step.call 14 [.slice (some ⟨b21, 0, none⟩) 1 1] (by kernel_rfl) (by kernel_rfl) [] [vw (some ⟨b21, 0, none⟩) (nums .u8 ([3] : List Int))] [row 5 1 (.slice (some ⟨b21, 0, none⟩) 1 1) 1 (nums .u8 ([3] : List Int)), row 5 1 (.slice (some ⟨b16, 0, none⟩) 1 1) 1 (nums .u8 ([2] : List Int)), row 5 1 (.slice Aq8 zs10.length cb9) zs10.length (nums .u8 zs10), row 5 1 (.slice (some ⟨b1, 0, none⟩) 32 32) 32 (nums .u8 bs)] (f_From_spec (some ⟨b21, 0, none⟩) 1 ([3] : List Int) 1 (by (repeat first | assumption | (simp only [fits]; omega) | with_reducible first | exact fits_wrap _ _ | exact fits_bits2 _ _ _ _ | exact In.nil _ | exact In.sb _ | exact In.replicate _ _ | apply In.append | apply In.cons | apply In.set | apply In.take | apply In.drop | apply In.rev)) (by first | assumption | omega | (simp only [List.length_append, List.length_cons, List.length_nil, List.length_set, List.length_replicate, List.length_take, List.length_drop]; omega) | (simp only [fits] at *; omega) | (simp only [List.length_append, List.length_cons, List.length_nil, List.length_set, List.length_replicate, List.length_take, List.length_drop] at *; omega) | (simp; done) | decide) (by first | rfl | assumption | omega | (simp only [List.length_append, List.length_cons, List.length_nil, List.length_set, List.length_replicate, List.length_take, List.length_drop]; omega) | (simp; done))) [] (by kernel_rfl) ((Lend.nil _).tells 0 (row 5 1 (.slice (some ⟨b21, 0, none⟩) 1 1) 1 (nums .u8 ([3] : List Int))) (some ⟨b21, 0, none⟩) (nums .u8 ([3] : List Int)) (by kernel_rfl) (tells_row _ _ _ _ _ _)) ?_)
    rintro _ _ ⟨zs23, rfl, rfl, hp24, hp25⟩
    refine RunR.step (dst := some 20) (op := .call { callee := .value (.func 33), args := #[.tmp 17, .tmp 19], argTypes := #[27, 27] }) (by kernel_rfl) (Step.call 33 [.agg (nums .u64 zs18).toArray, .agg (nums .u64 zs23).toArray] (by kernel_rfl) (by kernel_rfl) [] [] [row 5 1 (.slice (some ⟨b21, 0, none⟩) 1 1) 1 (nums .u8 ([3] : List Int)), row 5 1 (.slice (some ⟨b16, 0, none⟩) 1 1) 1 (nums .u8 ([2] : List Int)), row 5 1 (.slice Aq8 zs10.length cb9) zs10.length (nums .u8 zs10), row 5 1 (.slice (some ⟨b1, 0, none⟩) 32 32) 32 (nums .u8 bs)] (f_Mul_spec zs18 (fromV ([2] : List Int) % P) zs23 (fromV ([3] : List Int) % P) (by first | assumption | omega | (simp only [List.length_append, List.length_cons, List.length_nil, List.length_set, List.length_replicate, List.length_take, List.length_drop]; omega) | (simp only [fits] at *; omega) | (simp only [List.length_append, List.length_cons, List.length_nil, List.length_set, List.length_replicate, List.length_take, List.length_drop] at *; omega) | (simp; done) | decide) (by first | rfl | assumption | omega | (simp only [List.length_append, List.length_cons, List.length_nil, List.length_set, List.length_replicate, List.length_take, List.length_drop]; omega) | (simp; done)) (by first | assumption | omega | (simp only [List.length_append, List.length_cons, List.length_nil, List.length_set, List.length_replicate, List.length_take, List.length_drop]; omega) | (simp only [fits] at *; omega) | (simp only [List.length_append, List.length_cons, List.length_nil, List.length_set, List.length_replicate, List.length_take, List.length_drop] at *; omega) | (simp; done) | decide) (by first | rfl | assumption | omega | (simp only [List.length_append, List.length_cons, List.length_nil, List.length_set, List.length_replicate, List.length_take, List.length_drop]; omega) | (simp; done))) [] (by kernel_rfl) (Lend.nil _) ?_)
    rintro _ _ ⟨zs26, rfl, rfl, hp27, hp28⟩
    refine RunR.step (dst := some 21) (op := .call { callee := .value (.func 17), args := #[.tmp 20], argTypes := #[27] }) (by kernel_rfl) (Step.call 17 [.agg (nums .u64 zs26).toArray] (by kernel_rfl) (by kernel_rfl) [] [] [row 5 1 (.slice (some ⟨b21, 0, none⟩) 1 1) 1 (nums .u8 ([3] : List Int)), row 5 1 (.slice (some ⟨b16, 0, none⟩) 1 1) 1 (nums .u8 ([2] : List Int)), row 5 1 (.slice Aq8 zs10.length cb9) zs10.length (nums .u8 zs10), row 5 1 (.slice (some ⟨b1, 0, none⟩) 32 32) 32 (nums .u8 bs)] (f_Bytes_spec zs26 (((fromV ([2] : List Int) % P) * (fromV ([3] : List Int) % P)) % P) (by first | assumption | omega | (simp only [List.length_append, List.length_cons, List.length_nil, List.length_set, List.length_replicate, List.length_take, List.length_drop]; omega) | (simp only [fits] at *; omega) | (simp only [List.length_append, List.length_cons, List.length_nil, List.length_set, List.length_replicate, List.length_take, List.length_drop] at *; omega) | (simp; done) | decide) (by first | rfl | assumption | omega | (simp only [List.length_append, List.length_cons, List.length_nil, List.length_set, List.length_replicate, List.length_take, List.length_drop]; omega) | (simp; done))) [] (by kernel_rfl) (Lend.nil _) ?_)
    rintro _ _ ⟨Aq29, cb30, zs31, rfl, rfl, hp32, hp33, hp34, hp35, hp36⟩
    refine RunR.sil hU [] 1 7 [0, 3, 4] [(0, .bool false), (3, .slice Aq8 zs10.length cb9), (4, .slice Aq29 zs31.length cb30)] ((True) ∧ True) rfl (by kernel_rfl) ⟨trivial, trivial⟩ ?_
    refine RunR.done (by kernel_rfl) ?_
    refine kseq_n ?_
    refine RunC.seq ?_
    refine RunC.region ?_
    refine RunR.sil hU [] 4 4 [0, 3, 4, 25] [(0, .bool false), (3, .slice Aq8 zs10.length cb9), (4, .slice Aq29 zs31.length cb30), (25, .bool (decide (((zs10.length : Nat) : Int) = 32)))] ((True) ∧ (True) ∧ (True) ∧ (True) ∧ True) rfl (by kernel_rfl) ⟨trivial, trivial, trivial, trivial, trivial⟩ ?_
    refine RunR.env [0, 3, 4, 25] [(0, .bool false), (3, .slice Aq8 zs10.length cb9), (4, .slice Aq29 zs31.length cb30), (25, .bool (decide (((zs10.length : Nat) : Int) = 32)))] (by kernel_rfl) ?_
    have hk37 : (((zs10.length : Nat) : Int) = 32) := by omega
    refine RunR.enveq [(0, .bool false), (3, .slice Aq8 zs10.length cb9), (4, .slice Aq29 zs31.length cb30), (25, .bool true)] (by rw [decide_eq_true hk37]; try rfl) ?_
    refine RunR.sil hU [] 2 6 [0, 3, 4, 25, 27] [(0, .bool false), (3, .slice Aq8 zs10.length cb9), (4, .slice Aq29 zs31.length cb30), (25, .bool true), (27, .pointer (elemAt Aq8 0 1))] ((True) ∧ ((0 ≤ (0 : Int) ∧ (0 : Int) < ((zs10.length : Nat) : Int)) ∧ Option.isSome Aq8 = true) ∧ True) rfl (by kernel_rfl) ⟨trivial, ⟨by omega, hp15 (by omega)⟩, trivial⟩ ?_
    refine RunR.step (dst := some 28) (op := .load 5 (.tmp 27)) (by kernel_rfl) (Step.load_num hU 3 (row 5 1 (.slice Aq8 zs10.length cb9) zs10.length (nums .u8 zs10)) Aq8 0 .u8 zs10 rfl (by kernel_rfl) (by kernel_rfl) (tells_row _ _ _ _ _ _) (by kernel_rfl) (by omega) ?_)
    have hb38 : 0 ≤ zs10.getD ((0 : Int).toNat) 0 ∧ zs10.getD ((0 : Int).toNat) 0 < 256 := hp13.at_ _
    refine RunR.sil hU [] 3 10 [0, 3, 4, 31] [(0, .bool false), (3, .slice Aq8 zs10.length cb9), (4, .slice Aq29 zs31.length cb30), (31, .bool (decide ((zs10.getD (0 : Int).toNat 0) = 18)))] ((True) ∧ (True) ∧ (True) ∧ True) rfl (by kernel_rfl) ⟨trivial, trivial, trivial, trivial⟩ ?_
    refine RunR.env [0, 3, 4, 31] [(0, .bool false), (3, .slice Aq8 zs10.length cb9), (4, .slice Aq29 zs31.length cb30), (31, .bool (decide ((zs10.getD (0 : Int).toNat 0) = 18)))] (by kernel_rfl) ?_
    have hk39 : ((zs10.getD (0 : Int).toNat 0) = 18) := by rw [Dg.is (xs := zs10) (by assumption)]; (try rw [hbs, show i.toNat = 32 by omega]); decide +kernel
    refine RunR.enveq [(0, .bool false), (3, .slice Aq8 zs10.length cb9), (4, .slice Aq29 zs31.length cb30), (31, .bool true)] (by rw [decide_eq_true hk39]; try rfl) ?_
    refine RunR.sil hU [] 2 12 [0, 4, 31, 33] [(0, .bool false), (4, .slice Aq29 zs31.length cb30), (31, .bool true), (33, .pointer (elemAt Aq8 1 1))] ((True) ∧ ((0 ≤ (1 : Int) ∧ (1 : Int) < ((zs10.length : Nat) : Int)) ∧ Option.isSome Aq8 = true) ∧ True) rfl (by kernel_rfl) ⟨trivial, ⟨by omega, hp15 (by omega)⟩, trivial⟩ ?_
    refine RunR.step (dst := some 34) (op := .load 5 (.tmp 33)) (by kernel_rfl) (Step.load_num hU 3 (row 5 1 (.slice Aq8 zs10.length cb9) zs10.length (nums .u8 zs10)) Aq8 1 .u8 zs10 rfl (by kernel_rfl) (by kernel_rfl) (tells_row _ _ _ _ _ _) (by kernel_rfl) (by omega) ?_)
    have hb40 : 0 ≤ zs10.getD ((1 : Int).toNat) 0 ∧ zs10.getD ((1 : Int).toNat) 0 < 256 := hp13.at_ _
    refine RunR.sil hU [] 3 16 [0, 4, 37] [(0, .bool false), (4, .slice Aq29 zs31.length cb30), (37, .bool (decide ((zs10.getD (1 : Int).toNat 0) = 0)))] ((True) ∧ (True) ∧ (True) ∧ True) rfl (by kernel_rfl) ⟨trivial, trivial, trivial, trivial⟩ ?_
    refine RunR.env [0, 4, 37] [(0, .bool false), (4, .slice Aq29 zs31.length cb30), (37, .bool (decide ((zs10.getD (1 : Int).toNat 0) = 0)))] (by kernel_rfl) ?_
    have hk41 : ((zs10.getD (1 : Int).toNat 0) = 0) := by rw [Dg.is (xs := zs10) (by assumption)]; (try rw [hbs, show i.toNat = 32 by omega]); decide +kernel
    refine RunR.enveq [(0, .bool false), (4, .slice Aq29 zs31.length cb30), (37, .bool true)] (by rw [decide_eq_true hk41]; try rfl) ?_
    refine RunR.sil hU [] 5 21 [0, 4, 42] [(0, .bool false), (4, .slice Aq29 zs31.length cb30), (42, .bool (decide (((zs31.length : Nat) : Int) = 32)))] ((True) ∧ (True) ∧ (True) ∧ (True) ∧ (True) ∧ True) rfl (by kernel_rfl) ⟨trivial, trivial, trivial, trivial, trivial, trivial⟩ ?_
    refine RunR.env [0, 4, 42] [(0, .bool false), (4, .slice Aq29 zs31.length cb30), (42, .bool (decide (((zs31.length : Nat) : Int) = 32)))] (by kernel_rfl) ?_
    have hk42 : (((zs31.length : Nat) : Int) = 32) := by omega
    refine RunR.enveq [(0, .bool false), (4, .slice Aq29 zs31.length cb30), (42, .bool true)] (by rw [decide_eq_true hk42]; try rfl) ?_
    refine RunR.sil hU [] 2 23 [0, 42, 44] [(0, .bool false), (42, .bool true), (44, .pointer (elemAt Aq29 0 1))] ((True) ∧ ((0 ≤ (0 : Int) ∧ (0 : Int) < ((zs31.length : Nat) : Int)) ∧ Option.isSome Aq29 = true) ∧ True) rfl (by kernel_rfl) ⟨trivial, ⟨by omega, hp36 (by omega)⟩, trivial⟩ ?_
    refine RunR.step (dst := some 45) (op := .load 5 (.tmp 44)) (by kernel_rfl) (Step.load_num hU 0 (row 5 1 (.slice Aq29 zs31.length cb30) zs31.length (nums .u8 zs31)) Aq29 0 .u8 zs31 rfl (by kernel_rfl) (by kernel_rfl) (tells_row _ _ _ _ _ _) (by kernel_rfl) (by omega) ?_)
    have hb43 : 0 ≤ zs31.getD ((0 : Int).toNat) 0 ∧ zs31.getD ((0 : Int).toNat) 0 < 256 := hp34.at_ _
    refine RunR.sil hU [] 3 27 [0] [(0, .bool (decide ((zs31.getD (0 : Int).toNat 0) = 6)))] ((True) ∧ (True) ∧ (True) ∧ True) rfl (by kernel_rfl) ⟨trivial, trivial, trivial, trivial⟩ ?_
    refine RunR.env [0] [(0, .bool (decide ((zs31.getD (0 : Int).toNat 0) = 6)))] (by kernel_rfl) ?_
    have hk44 : ((zs31.getD (0 : Int).toNat 0) = 6) := by rw [Dg.is (xs := zs31) (by assumption)]; (try rw [hbs, show i.toNat = 32 by omega]); decide +kernel
    refine RunR.enveq [(0, .bool true)] (by rw [decide_eq_true hk44]; try rfl) ?_
    refine RunR.done (by kernel_rfl) ?_
    refine kseq_n ?_
    refine RunC.ret ?_
    refine kret_r [.bool true] [] [] ⟨rfl, trivial⟩ (by kernel_rfl) rfl ⟨rfl, rfl⟩
end Go.Proofs.Ytbnjcfhnbjaoiaa.Y8
