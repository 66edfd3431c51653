/- What these functions compute: a contract for each, walked through its code. -/
import Derived.Test.YtbnjcfhnbjaoiaaMPure
import Derived.Test.YtbnjcfhnbjaoiaaProg
import Derived.Test.YtbnjcfhnbjaoiaaX1
import Derived.Test.YtbnjcfhnbjaoiaaX2
import Derived.Test.YtbnjcfhnbjaoiaaX3
import Derived.Test.YtbnjcfhnbjaoiaaX4
import Derived.Test.YtbnjcfhnbjaoiaaX5
import Derived.Test.YtbnjcfhnbjaoiaaX6
import Derived.Test.YtbnjcfhnbjaoiaaX7
import Derived.Test.YtbnjcfhnbjaoiaaX8
import Derived.Test.YtbnjcfhnbjaoiaaY1
import Derived.Test.YtbnjcfhnbjaoiaaY2
namespace Go.Proofs.Ytbnjcfhnbjaoiaa.Y3
open Go Go.Proofs.Ytbnjcfhnbjaoiaa.SL Go.Proofs.Ytbnjcfhnbjaoiaa.SL.W Go.Proofs.Ytbnjcfhnbjaoiaa.SL.C Go.Proofs.Ytbnjcfhnbjaoiaa.SL.H Go.Proofs.Ytbnjcfhnbjaoiaa.SL.M Go.Proofs.Ytbnjcfhnbjaoiaa.X1 Go.Proofs.Ytbnjcfhnbjaoiaa.X2 Go.Proofs.Ytbnjcfhnbjaoiaa.X3 Go.Proofs.Ytbnjcfhnbjaoiaa.X4 Go.Proofs.Ytbnjcfhnbjaoiaa.X5 Go.Proofs.Ytbnjcfhnbjaoiaa.X6 Go.Proofs.Ytbnjcfhnbjaoiaa.X7 Go.Proofs.Ytbnjcfhnbjaoiaa.X8 Go.Proofs.Ytbnjcfhnbjaoiaa.Y1 Go.Proofs.Ytbnjcfhnbjaoiaa.Y2
set_option linter.unusedVariables false
set_option linter.unusedSimpArgs false
set_option maxRecDepth 100000
set_option maxHeartbeats 40000000
def U : Tab where
  und := [(3, .int .i64), (5, .int .u8), (22, .slice 5), (37, .int .i64)]
  fld := []
  sz := [(3, 1), (5, 1), (22, 1), (37, 1)]
  ti := [(3, (1, 8, .int .i64 0)), (5, (1, 1, .int .u8 0)), (22, (1, 24, .slice none 0 0)), (37, (1, 8, .int .i64 0))]
  bld := []

theorem hU : U.OK Try.prog where
  und := by
    intro p hp
    simp only [U, List.mem_cons, List.not_mem_nil, or_false] at hp
    rcases hp with rfl | rfl | rfl | rfl
    · exact Try.underlying3
    · exact Try.underlying5
    · exact Try.underlying22
    · exact Try.underlying37
  fld := by
    intro p hp; cases hp
  sz := by
    intro p hp
    simp only [U, List.mem_cons, List.not_mem_nil, or_false] at hp
    rcases hp with rfl | rfl | rfl | rfl
    · exact ⟨Try.prog.types[3]!, by kernel_rfl, by kernel_rfl⟩
    · exact ⟨Try.prog.types[5]!, by kernel_rfl, by kernel_rfl⟩
    · exact ⟨Try.prog.types[22]!, by kernel_rfl, by kernel_rfl⟩
    · exact ⟨Try.prog.types[37]!, by kernel_rfl, by kernel_rfl⟩
  ti := by
    intro p hp
    simp only [U, List.mem_cons, List.not_mem_nil, or_false] at hp
    rcases hp with rfl | rfl | rfl | rfl
    · exact ⟨Try.prog.types[3]!, by kernel_rfl, by kernel_rfl, by kernel_rfl, by kernel_rfl⟩
    · exact ⟨Try.prog.types[5]!, by kernel_rfl, by kernel_rfl, by kernel_rfl, by kernel_rfl⟩
    · exact ⟨Try.prog.types[22]!, by kernel_rfl, by kernel_rfl, by kernel_rfl, by kernel_rfl⟩
    · exact ⟨Try.prog.types[37]!, by kernel_rfl, by kernel_rfl, by kernel_rfl, by kernel_rfl⟩
  bld := by
    intro p hp; cases hp
  mixed := by kernel_rfl

theorem l3_awake_spec  :
    CallsS Try.prog 18 [] [] (fun r D => r = .bool true ∧ D = []) := by
  refine CallsS.enter hU Try.f18 _ [.tmp 0] 53 Try.func18 rfl (by decide) rfl rfl (by kernel_rfl) fun w0 W => ?_
  refine RunC.seq ?_
  refine RunC.region ?_
  refine RunR.sil hU [] 1 1 [0] [(0, .bool false)] ((True) ∧ True) rfl (by kernel_rfl) ⟨trivial, trivial⟩ ?_
  refine RunR.done (by kernel_rfl) ?_
  refine kseq_n ?_
  refine RunC.seq ?_
  refine RunC.region ?_
  refine RunR.step (dst := some 6) (op := .makeSlice 22 (.const (.int .i64 20)) (.const (.int .i64 20))) (by kernel_rfl) (Step.make_nums hU 5 1 .u8 .i64 .i64 (20) rfl rfl (by kernel_rfl) (by kernel_rfl) (by omega) (by omega) (by kernel_rfl) (fun b1 => ?_))
  have hl2 : (List.replicate 20 (0 : Int)).length = 20 := List.length_replicate
  refine RunR.sil hU [] 1 2 [0, 1] [(0, .bool false), (1, .slice (some ⟨b1, 0, none⟩) 20 20)] ((True) ∧ True) rfl (by kernel_rfl) ⟨trivial, trivial⟩ ?_
  refine RunR.done (by kernel_rfl) ?_
  refine kseq_n ?_
  refine RunC.seq ?_
  refine RunC.seq ?_
  refine RunC.region ?_
  refine RunR.sil hU [] 1 1 [0, 1, 2] [(0, .bool false), (1, .slice (some ⟨b1, 0, none⟩) 20 20), (2, .int .i64 0)] ((True) ∧ True) rfl (by kernel_rfl) ⟨trivial, trivial⟩ ?_
  refine RunR.done (by kernel_rfl) ?_
  refine kseq_n ?_
  refine RunC.block ?_
  refine RunC.env [0, 1, 2] [(0, .bool false), (1, .slice (some ⟨b1, 0, none⟩) 20 20), (2, .int .i64 0)] (by kernel_rfl) ?_
  refine RunC.only [0] [row 5 1 (.slice (some ⟨b1, 0, none⟩) 20 20) 20 (nums .u8 (List.replicate 20 (0 : Int)))] (by kernel_rfl) ?_
  refine RunC.loop (σ := Nat) (fun n_ t_ D_ => ∃ (i : Int) (kx : List Int), (0 ≤ i) ∧ (i ≤ 20) ∧ (kx = List.replicate i.toNat 11 ++ List.replicate (20 - i).toNat 0) ∧ (kx.length = 20) ∧ (In .u8 kx) ∧ n_ = ((20 - i).toNat : Nat) ∧ t_ = [(0, .bool false), (1, .slice (some ⟨b1, 0, none⟩) 20 20), (2, .int .i64 i)] ∧ D_ = [row 5 1 (.slice (some ⟨b1, 0, none⟩) 20 20) 20 (nums .u8 kx)]) id _ ⟨0, (List.replicate 20 (0 : Int)), (by first | assumption | omega | (simp only [List.length_append, List.length_cons, List.length_nil, List.length_set, List.length_replicate, List.length_take, List.length_drop]; omega) | (simp only [fits] at *; omega) | (simp only [List.length_append, List.length_cons, List.length_nil, List.length_set, List.length_replicate, List.length_take, List.length_drop] at *; omega) | (simp; done) | decide), (by first | assumption | omega | (simp only [List.length_append, List.length_cons, List.length_nil, List.length_set, List.length_replicate, List.length_take, List.length_drop]; omega) | (simp only [fits] at *; omega) | (simp only [List.length_append, List.length_cons, List.length_nil, List.length_set, List.length_replicate, List.length_take, List.length_drop] at *; omega) | (simp; done) | decide), (by rfl), (by rfl), (by exact In.replicate _ _), rfl, rfl, rfl⟩ ?_
  rintro n_ _ _ ⟨i, kx, hi, hi2, hz, hzl, hzi, rfl, rfl, rfl⟩
  refine RunC.seq ?_
  refine RunC.seq ?_
  refine RunC.region ?_
  refine RunR.sil hU [] 2 2 [0, 1, 2, 8] [(0, .bool false), (1, .slice (some ⟨b1, 0, none⟩) 20 20), (2, .int .i64 i), (8, .bool (decide (i < 20)))] ((True) ∧ (True) ∧ True) rfl (by kernel_rfl) ⟨trivial, trivial, trivial⟩ ?_
  refine RunR.done (by kernel_rfl) ?_
  refine kseq_n ?_
  refine RunC.condp (i < 20) (by kernel_rfl) (fun h3 => ?_) (fun h3 => ?_)
  · skip
    refine RunC.skip ?_
    refine kseq_n ?_
    refine RunC.seq ?_
    refine RunC.block ?_
    refine RunC.region ?_
    refine RunR.sil hU [] 3 3 [0, 1, 2, 13] [(0, .bool false), (1, .slice (some ⟨b1, 0, none⟩) 20 20), (2, .int .i64 i), (13, .pointer (elemAt (some ⟨b1, 0, none⟩) i 1))] ((True) ∧ (True) ∧ ((0 ≤ i ∧ i < ((20 : Nat) : Int)) ∧ Option.isSome (some ⟨b1, 0, none⟩ : Option Addr) = true) ∧ True) rfl (by kernel_rfl) ⟨trivial, trivial, ⟨by omega, rfl⟩, trivial⟩ ?_
    refine RunR.step (dst := none) (op := .store 5 (.tmp 13) (.const (.int .u8 11))) (by kernel_rfl) (Step.store_num hU 0 5 20 20 (some ⟨b1, 0, none⟩) .u8 kx i 11 (by kernel_rfl) (by kernel_rfl) (by kernel_rfl) rfl (by omega) ?_)
    have hl4 : (kx.set (i).toNat 11).length = kx.length := List.length_set
    refine RunR.done (by kernel_rfl) ?_
    refine kblock_n ?_
    refine kseq_n ?_
    refine RunC.region ?_
    refine RunR.sil hU [1] 3 3 [0, 1, 2] [(0, .bool false), (1, .slice (some ⟨b1, 0, none⟩) 20 20), (2, .int .i64 (i + 1))] ((True) ∧ (-9223372036854775808 ≤ (i + 1) ∧ (i + 1) < 9223372036854775808) ∧ (True) ∧ True) rfl (by kernel_rfl) ⟨trivial, (by omega), trivial, trivial⟩ ?_
    refine RunR.done (by kernel_rfl) ?_
    refine kloop_n _ [0, 1, 2] [0] [(0, .bool false), (1, .slice (some ⟨b1, 0, none⟩) 20 20), (2, .int .i64 (i + 1))] [row 5 1 (.slice (some ⟨b1, 0, none⟩) 20 20) 20 (nums .u8 (kx.set (i).toNat 11))] (by kernel_rfl) (by kernel_rfl) ?_ ⟨(i + 1), (kx.set (i).toNat 11), (by first | assumption | omega | (simp only [List.length_append, List.length_cons, List.length_nil, List.length_set, List.length_replicate, List.length_take, List.length_drop]; omega) | (simp only [fits] at *; omega) | (simp only [List.length_append, List.length_cons, List.length_nil, List.length_set, List.length_replicate, List.length_take, List.length_drop] at *; omega) | (simp; done) | decide), (by first | assumption | omega | (simp only [List.length_append, List.length_cons, List.length_nil, List.length_set, List.length_replicate, List.length_take, List.length_drop]; omega) | (simp only [fits] at *; omega) | (simp only [List.length_append, List.length_cons, List.length_nil, List.length_set, List.length_replicate, List.length_take, List.length_drop] at *; omega) | (simp; done) | decide), (by rw [hz]; exact rep_step hi (by omega)), (by simpa using hzl), (by (repeat first | assumption | (simp only [fits]; omega) | with_reducible first | exact fits_wrap _ _ | exact fits_bits2 _ _ _ _ | exact In.nil _ | exact In.sb _ | exact In.replicate _ _ | apply In.append | apply In.cons | apply In.set | apply In.take | apply In.drop | apply In.rev)), rfl, (by rfl), (by rfl)⟩
    show ((20 - (i + 1)).toNat : Nat) < ((20 - i).toNat : Nat)
    omega
  · skip
    refine RunC.exit ?_
    refine kseq_e ?_
    refine kloop_e ?_
    refine kblock_e ?_
    refine kseq_n ?_
    refine RunC.seq ?_
    refine RunC.region ?_
    refine RunR.sil hU [] 1 1 [0, 14] [(0, .bool false), (14, .slice (some ⟨b1, 0, none⟩) 20 20)] ((True) ∧ True) rfl (by kernel_rfl) ⟨trivial, trivial⟩ ?_
    refine RunR.step (dst := some 15) (op := .buildSlice 22 8 #[(0, .const (.int .u8 72)), (1, .const (.int .u8 105)), (2, .const (.int .u8 32)), (3, .const (.int .u8 84)), (4, .const (.int .u8 104)), (5, .const (.int .u8 101)), (6, .const (.int .u8 114)), (7, .const (.int .u8 101))]) (by kernel_rfl) (Step.lit_nums hU 5 1 .u8 (.int .u8 0) ([72, 105, 32, 84, 104, 101, 114, 101] : List Int) rfl rfl (by kernel_rfl) rfl rfl (by kernel_rfl) (fun b5 => ?_))
    have hl6 : (([72, 105, 32, 84, 104, 101, 114, 101] : List Int)).length = 8 := rfl
    refine RunR.step (dst := some 16) (op := .convert 22 22 (.tmp 15)) (by kernel_rfl) (Step.mark_bytes hU 5 0 8 8 b5 ([72, 105, 32, 84, 104, 101, 114, 101] : List Int) rfl rfl (by kernel_rfl) (by kernel_rfl) (by decide) (by kernel_rfl) ?_)
    refine RunR.step (dst := some 17) (op := .call { callee := .value (.func 21), args := #[.tmp 14, .tmp 16], argTypes := #[22, 22] }) (by kernel_rfl) (Step.call 21 [.slice (some ⟨b1, 0, none⟩) 20 20, .slice (some ⟨b5, 0, none⟩) 8 8] (by kernel_rfl) (by kernel_rfl) [] [vw (some ⟨b1, 0, none⟩) (nums .u8 kx), vw (some ⟨b5, 0, none⟩) (nums .u8 ([72, 105, 32, 84, 104, 101, 114, 101] : List Int))] [vw (some ⟨b5, 0, none⟩) (nums .u8 ([72, 105, 32, 84, 104, 101, 114, 101] : List Int)), row 5 1 (.slice (some ⟨b1, 0, none⟩) 20 20) 20 (nums .u8 kx)] (m_Mac_spec (some ⟨b1, 0, none⟩) 20 kx (some ⟨b5, 0, none⟩) 8 ([72, 105, 32, 84, 104, 101, 114, 101] : List Int) 20 8 hzi (by first | assumption | omega | (simp only [List.length_append, List.length_cons, List.length_nil, List.length_set, List.length_replicate, List.length_take, List.length_drop]; omega) | (simp only [fits] at *; omega) | (simp only [List.length_append, List.length_cons, List.length_nil, List.length_set, List.length_replicate, List.length_take, List.length_drop] at *; omega) | (simp; done) | decide) (by first | assumption | omega | (simp only [List.length_append, List.length_cons, List.length_nil, List.length_set, List.length_replicate, List.length_take, List.length_drop]; omega) | (simp only [fits] at *; omega) | (simp only [List.length_append, List.length_cons, List.length_nil, List.length_set, List.length_replicate, List.length_take, List.length_drop] at *; omega) | (simp; done) | decide) (by (repeat first | assumption | (simp only [fits]; omega) | with_reducible first | exact fits_wrap _ _ | exact fits_bits2 _ _ _ _ | exact In.nil _ | exact In.sb _ | exact In.replicate _ _ | apply In.append | apply In.cons | apply In.set | apply In.take | apply In.drop | apply In.rev)) (by first | assumption | omega | (simp only [List.length_append, List.length_cons, List.length_nil, List.length_set, List.length_replicate, List.length_take, List.length_drop]; omega) | (simp only [fits] at *; omega) | (simp only [List.length_append, List.length_cons, List.length_nil, List.length_set, List.length_replicate, List.length_take, List.length_drop] at *; omega) | (simp; done) | decide) (by first | assumption | omega | (simp only [List.length_append, List.length_cons, List.length_nil, List.length_set, List.length_replicate, List.length_take, List.length_drop]; omega) | (simp only [fits] at *; omega) | (simp only [List.length_append, List.length_cons, List.length_nil, List.length_set, List.length_replicate, List.length_take, List.length_drop] at *; omega) | (simp; done) | decide) (by first | rfl | assumption | omega | (simp only [List.length_append, List.length_cons, List.length_nil, List.length_set, List.length_replicate, List.length_take, List.length_drop]; omega) | (simp; done)) (by first | rfl | assumption | omega | (simp only [List.length_append, List.length_cons, List.length_nil, List.length_set, List.length_replicate, List.length_take, List.length_drop]; omega) | (simp; done))) [] (by kernel_rfl) (((Lend.nil _).tells 0 (vw (some ⟨b5, 0, none⟩) (nums .u8 ([72, 105, 32, 84, 104, 101, 114, 101] : List Int))) (some ⟨b5, 0, none⟩) (nums .u8 ([72, 105, 32, 84, 104, 101, 114, 101] : List Int)) (by kernel_rfl) (tells_vw _ _)).tells 1 (row 5 1 (.slice (some ⟨b1, 0, none⟩) 20 20) 20 (nums .u8 kx)) (some ⟨b1, 0, none⟩) (nums .u8 kx) (by kernel_rfl) (tells_row _ _ _ _ _ _)) ?_)
    rintro _ _ ⟨A27, c28, zs9, rfl, rfl, hp10, hp11, hp12, hp13, hp14⟩
    refine RunR.sil hU [] 1 5 [0, 3] [(0, .bool false), (3, .slice A27 zs9.length c28)] ((True) ∧ True) rfl (by kernel_rfl) ⟨trivial, trivial⟩ ?_
    refine RunR.done (by kernel_rfl) ?_
    refine kseq_n ?_
    refine RunC.seq ?_
    refine RunC.region ?_
    refine RunR.turn ([vw none (nums .u8 ([] : List Int)), row 5 1 (.slice A27 zs9.length c28) zs9.length (nums .u8 zs9), vw (some ⟨b5, 0, none⟩) (nums .u8 ([72, 105, 32, 84, 104, 101, 114, 101] : List Int)), row 5 1 (.slice (some ⟨b1, 0, none⟩) 20 20) 20 (nums .u8 kx)]) (fun w hs => hs.nil_vw none) ?_
    refine RunR.step (dst := some 19) (op := .call { callee := .value (.func 19), args := #[.const (.slice none 0 0), .const (.slice none 0 0), .const (.int .i64 8161)], argTypes := #[22, 22, 3] }) (by kernel_rfl) (Step.call 19 [.slice none 0 0, .slice none 0 0, .int .i64 8161] (by kernel_rfl) (by kernel_rfl) [] [vw none (nums .u8 ([] : List Int)), vw none (nums .u8 ([] : List Int))] [vw none (nums .u8 ([] : List Int)), row 5 1 (.slice A27 zs9.length c28) zs9.length (nums .u8 zs9), vw (some ⟨b5, 0, none⟩) (nums .u8 ([72, 105, 32, 84, 104, 101, 114, 101] : List Int)), row 5 1 (.slice (some ⟨b1, 0, none⟩) 20 20) 20 (nums .u8 kx)] (m_Expand_spec none 0 ([] : List Int) none 0 ([] : List Int) 8161 0 0 (by (repeat first | assumption | (simp only [fits]; omega) | with_reducible first | exact fits_wrap _ _ | exact fits_bits2 _ _ _ _ | exact In.nil _ | exact In.sb _ | exact In.replicate _ _ | apply In.append | apply In.cons | apply In.set | apply In.take | apply In.drop | apply In.rev)) (by first | assumption | omega | (simp only [List.length_append, List.length_cons, List.length_nil, List.length_set, List.length_replicate, List.length_take, List.length_drop]; omega) | (simp only [fits] at *; omega) | (simp only [List.length_append, List.length_cons, List.length_nil, List.length_set, List.length_replicate, List.length_take, List.length_drop] at *; omega) | (simp; done) | decide) (by first | assumption | omega | (simp only [List.length_append, List.length_cons, List.length_nil, List.length_set, List.length_replicate, List.length_take, List.length_drop]; omega) | (simp only [fits] at *; omega) | (simp only [List.length_append, List.length_cons, List.length_nil, List.length_set, List.length_replicate, List.length_take, List.length_drop] at *; omega) | (simp; done) | decide) (by (repeat first | assumption | (simp only [fits]; omega) | with_reducible first | exact fits_wrap _ _ | exact fits_bits2 _ _ _ _ | exact In.nil _ | exact In.sb _ | exact In.replicate _ _ | apply In.append | apply In.cons | apply In.set | apply In.take | apply In.drop | apply In.rev)) (by first | assumption | omega | (simp only [List.length_append, List.length_cons, List.length_nil, List.length_set, List.length_replicate, List.length_take, List.length_drop]; omega) | (simp only [fits] at *; omega) | (simp only [List.length_append, List.length_cons, List.length_nil, List.length_set, List.length_replicate, List.length_take, List.length_drop] at *; omega) | (simp; done) | decide) (by first | assumption | omega | (simp only [List.length_append, List.length_cons, List.length_nil, List.length_set, List.length_replicate, List.length_take, List.length_drop]; omega) | (simp only [fits] at *; omega) | (simp only [List.length_append, List.length_cons, List.length_nil, List.length_set, List.length_replicate, List.length_take, List.length_drop] at *; omega) | (simp; done) | decide) (by first | assumption | exact fits_wrap _ _ | exact fits_bits2 _ _ _ _ | (refine ⟨?_, ?_⟩ <;> omega)) (by first | rfl | assumption | omega | (simp only [List.length_append, List.length_cons, List.length_nil, List.length_set, List.length_replicate, List.length_take, List.length_drop]; omega) | (simp; done)) (by first | rfl | assumption | omega | (simp only [List.length_append, List.length_cons, List.length_nil, List.length_set, List.length_replicate, List.length_take, List.length_drop]; omega) | (simp; done))) [] (by kernel_rfl) (((Lend.nil _).tells 0 (vw none (nums .u8 ([] : List Int))) none (nums .u8 ([] : List Int)) (by kernel_rfl) (tells_vw _ _)).tells 0 (vw none (nums .u8 ([] : List Int))) none (nums .u8 ([] : List Int)) (by kernel_rfl) (tells_vw _ _)) ?_)
    rintro _ _ ⟨A215, c216, N17, ws18, zs19, e20, rfl, rfl, hp21, hp22, hp23, hp24⟩
    have hB25_t : Tells (row 5 1 (.slice A215 N17 c216) N17 (nums .u8 ws18)) (A215) (nums .u8 zs19) := by rw [hp24]; exact tells_take_nums (tells_row _ _ _ _ _ _) _
    refine RunR.sil hU [] 5 6 [0, 3, 5] [(0, .bool false), (3, .slice A27 zs9.length c28), (5, .int .i64 e20)] ((True) ∧ (True) ∧ (True) ∧ (True) ∧ (True) ∧ True) rfl (by kernel_rfl) ⟨trivial, trivial, trivial, trivial, trivial, trivial⟩ ?_
    refine RunR.done (by kernel_rfl) ?_
    refine kseq_n ?_
    refine RunC.seq ?_
    refine RunC.region ?_
    refine RunR.sil hU [] 4 4 [0, 3, 5, 25] [(0, .bool false), (3, .slice A27 zs9.length c28), (5, .int .i64 e20), (25, .bool (decide (((zs9.length : Nat) : Int) = 32)))] ((True) ∧ (True) ∧ (True) ∧ (True) ∧ True) rfl (by kernel_rfl) ⟨trivial, trivial, trivial, trivial, trivial⟩ ?_
    refine RunR.env [0, 3, 5, 25] [(0, .bool false), (3, .slice A27 zs9.length c28), (5, .int .i64 e20), (25, .bool (decide (((zs9.length : Nat) : Int) = 32)))] (by kernel_rfl) ?_
    have hk26 : (((zs9.length : Nat) : Int) = 32) := by omega
    refine RunR.enveq [(0, .bool false), (3, .slice A27 zs9.length c28), (5, .int .i64 e20), (25, .bool true)] (by rw [decide_eq_true hk26]; try rfl) ?_
    refine RunR.sil hU [] 2 6 [0, 3, 5, 25, 27] [(0, .bool false), (3, .slice A27 zs9.length c28), (5, .int .i64 e20), (25, .bool true), (27, .pointer (elemAt A27 0 1))] ((True) ∧ ((0 ≤ (0 : Int) ∧ (0 : Int) < ((zs9.length : Nat) : Int)) ∧ Option.isSome A27 = true) ∧ True) rfl (by kernel_rfl) ⟨trivial, ⟨by omega, hp14 (by omega)⟩, trivial⟩ ?_
    refine RunR.step (dst := some 28) (op := .load 5 (.tmp 27)) (by kernel_rfl) (Step.load_num hU 2 (row 5 1 (.slice A27 zs9.length c28) zs9.length (nums .u8 zs9)) A27 0 .u8 zs9 rfl (by kernel_rfl) (by kernel_rfl) (tells_row _ _ _ _ _ _) (by kernel_rfl) (by omega) ?_)
    have hb27 : 0 ≤ zs9.getD ((0 : Int).toNat) 0 ∧ zs9.getD ((0 : Int).toNat) 0 < 256 := hp12.at_ _
    refine RunR.sil hU [] 3 10 [0, 3, 5, 31] [(0, .bool false), (3, .slice A27 zs9.length c28), (5, .int .i64 e20), (31, .bool (decide ((zs9.getD (0 : Int).toNat 0) = 176)))] ((True) ∧ (True) ∧ (True) ∧ True) rfl (by kernel_rfl) ⟨trivial, trivial, trivial, trivial⟩ ?_
    refine RunR.env [0, 3, 5, 31] [(0, .bool false), (3, .slice A27 zs9.length c28), (5, .int .i64 e20), (31, .bool (decide ((zs9.getD (0 : Int).toNat 0) = 176)))] (by kernel_rfl) ?_
    have hk28 : ((zs9.getD (0 : Int).toNat 0) = 176) := by simp only [hp10, hp22, hp24, hz, show i = 20 by omega]; decide +kernel
    refine RunR.enveq [(0, .bool false), (3, .slice A27 zs9.length c28), (5, .int .i64 e20), (31, .bool true)] (by rw [decide_eq_true hk28]; try rfl) ?_
    refine RunR.sil hU [] 2 12 [0, 3, 5, 31, 33] [(0, .bool false), (3, .slice A27 zs9.length c28), (5, .int .i64 e20), (31, .bool true), (33, .pointer (elemAt A27 1 1))] ((True) ∧ ((0 ≤ (1 : Int) ∧ (1 : Int) < ((zs9.length : Nat) : Int)) ∧ Option.isSome A27 = true) ∧ True) rfl (by kernel_rfl) ⟨trivial, ⟨by omega, hp14 (by omega)⟩, trivial⟩ ?_
    refine RunR.step (dst := some 34) (op := .load 5 (.tmp 33)) (by kernel_rfl) (Step.load_num hU 2 (row 5 1 (.slice A27 zs9.length c28) zs9.length (nums .u8 zs9)) A27 1 .u8 zs9 rfl (by kernel_rfl) (by kernel_rfl) (tells_row _ _ _ _ _ _) (by kernel_rfl) (by omega) ?_)
    have hb29 : 0 ≤ zs9.getD ((1 : Int).toNat) 0 ∧ zs9.getD ((1 : Int).toNat) 0 < 256 := hp12.at_ _
    refine RunR.sil hU [] 3 16 [0, 3, 5, 37] [(0, .bool false), (3, .slice A27 zs9.length c28), (5, .int .i64 e20), (37, .bool (decide ((zs9.getD (1 : Int).toNat 0) = 52)))] ((True) ∧ (True) ∧ (True) ∧ True) rfl (by kernel_rfl) ⟨trivial, trivial, trivial, trivial⟩ ?_
    refine RunR.env [0, 3, 5, 37] [(0, .bool false), (3, .slice A27 zs9.length c28), (5, .int .i64 e20), (37, .bool (decide ((zs9.getD (1 : Int).toNat 0) = 52)))] (by kernel_rfl) ?_
    have hk30 : ((zs9.getD (1 : Int).toNat 0) = 52) := by simp only [hp10, hp22, hp24, hz, show i = 20 by omega]; decide +kernel
    refine RunR.enveq [(0, .bool false), (3, .slice A27 zs9.length c28), (5, .int .i64 e20), (37, .bool true)] (by rw [decide_eq_true hk30]; try rfl) ?_
    refine RunR.sil hU [] 2 18 [0, 3, 5, 37, 39] [(0, .bool false), (3, .slice A27 zs9.length c28), (5, .int .i64 e20), (37, .bool true), (39, .pointer (elemAt A27 2 1))] ((True) ∧ ((0 ≤ (2 : Int) ∧ (2 : Int) < ((zs9.length : Nat) : Int)) ∧ Option.isSome A27 = true) ∧ True) rfl (by kernel_rfl) ⟨trivial, ⟨by omega, hp14 (by omega)⟩, trivial⟩ ?_
    refine RunR.step (dst := some 40) (op := .load 5 (.tmp 39)) (by kernel_rfl) (Step.load_num hU 2 (row 5 1 (.slice A27 zs9.length c28) zs9.length (nums .u8 zs9)) A27 2 .u8 zs9 rfl (by kernel_rfl) (by kernel_rfl) (tells_row _ _ _ _ _ _) (by kernel_rfl) (by omega) ?_)
    have hb31 : 0 ≤ zs9.getD ((2 : Int).toNat) 0 ∧ zs9.getD ((2 : Int).toNat) 0 < 256 := hp12.at_ _
    refine RunR.sil hU [] 3 22 [0, 3, 5, 43] [(0, .bool false), (3, .slice A27 zs9.length c28), (5, .int .i64 e20), (43, .bool (decide ((zs9.getD (2 : Int).toNat 0) = 76)))] ((True) ∧ (True) ∧ (True) ∧ True) rfl (by kernel_rfl) ⟨trivial, trivial, trivial, trivial⟩ ?_
    refine RunR.env [0, 3, 5, 43] [(0, .bool false), (3, .slice A27 zs9.length c28), (5, .int .i64 e20), (43, .bool (decide ((zs9.getD (2 : Int).toNat 0) = 76)))] (by kernel_rfl) ?_
    have hk32 : ((zs9.getD (2 : Int).toNat 0) = 76) := by simp only [hp10, hp22, hp24, hz, show i = 20 by omega]; decide +kernel
    refine RunR.enveq [(0, .bool false), (3, .slice A27 zs9.length c28), (5, .int .i64 e20), (43, .bool true)] (by rw [decide_eq_true hk32]; try rfl) ?_
    refine RunR.sil hU [] 2 24 [0, 5, 43, 45] [(0, .bool false), (5, .int .i64 e20), (43, .bool true), (45, .pointer (elemAt A27 3 1))] ((True) ∧ ((0 ≤ (3 : Int) ∧ (3 : Int) < ((zs9.length : Nat) : Int)) ∧ Option.isSome A27 = true) ∧ True) rfl (by kernel_rfl) ⟨trivial, ⟨by omega, hp14 (by omega)⟩, trivial⟩ ?_
    refine RunR.step (dst := some 46) (op := .load 5 (.tmp 45)) (by kernel_rfl) (Step.load_num hU 2 (row 5 1 (.slice A27 zs9.length c28) zs9.length (nums .u8 zs9)) A27 3 .u8 zs9 rfl (by kernel_rfl) (by kernel_rfl) (tells_row _ _ _ _ _ _) (by kernel_rfl) (by omega) ?_)
    have hb33 : 0 ≤ zs9.getD ((3 : Int).toNat) 0 ∧ zs9.getD ((3 : Int).toNat) 0 < 256 := hp12.at_ _
    refine RunR.sil hU [] 3 28 [0, 5, 49] [(0, .bool false), (5, .int .i64 e20), (49, .bool (decide ((zs9.getD (3 : Int).toNat 0) = 97)))] ((True) ∧ (True) ∧ (True) ∧ True) rfl (by kernel_rfl) ⟨trivial, trivial, trivial, trivial⟩ ?_
    refine RunR.env [0, 5, 49] [(0, .bool false), (5, .int .i64 e20), (49, .bool (decide ((zs9.getD (3 : Int).toNat 0) = 97)))] (by kernel_rfl) ?_
    have hk34 : ((zs9.getD (3 : Int).toNat 0) = 97) := by simp only [hp10, hp22, hp24, hz, show i = 20 by omega]; decide +kernel
    refine RunR.enveq [(0, .bool false), (5, .int .i64 e20), (49, .bool true)] (by rw [decide_eq_true hk34]; try rfl) ?_
    refine RunR.sil hU [] 4 32 [0] [(0, .bool (decide (e20 = 1)))] ((True) ∧ (True) ∧ (True) ∧ (True) ∧ True) rfl (by kernel_rfl) ⟨trivial, trivial, trivial, trivial, trivial⟩ ?_
    refine RunR.env [0] [(0, .bool (decide (e20 = 1)))] (by kernel_rfl) ?_
    have hk35 : (e20 = 1) := by omega
    refine RunR.enveq [(0, .bool true)] (by rw [decide_eq_true hk35]; try rfl) ?_
    refine RunR.done (by kernel_rfl) ?_
    refine kseq_n ?_
    refine RunC.ret ?_
    refine kret_r [.bool true] [] [] ⟨rfl, trivial⟩ (by kernel_rfl) rfl ⟨rfl, rfl⟩
end Go.Proofs.Ytbnjcfhnbjaoiaa.Y3
