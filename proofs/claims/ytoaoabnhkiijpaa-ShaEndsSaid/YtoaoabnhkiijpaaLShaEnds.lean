/- The law ShaEnds returns true whatever it is handed: its walk, on the contracts of what it calls. -/
import Derived.Test.YtoaoabnhkiijpaaHPure
import Derived.Test.YtoaoabnhkiijpaaProg
import Derived.Test.YtoaoabnhkiijpaaX1
import Derived.Test.YtoaoabnhkiijpaaX2
import Derived.Test.YtoaoabnhkiijpaaX3
import Derived.Test.YtoaoabnhkiijpaaX4
import Derived.Test.YtoaoabnhkiijpaaX5
import Derived.Test.YtoaoabnhkiijpaaX6
import Derived.Test.YtoaoabnhkiijpaaX7
import Derived.Test.YtoaoabnhkiijpaaX8
import Derived.Test.YtoaoabnhkiijpaaX9
namespace Go.Proofs.Ytoaoabnhkiijpaa.LShaEnds
open Go Go.Proofs.Ytoaoabnhkiijpaa.SL Go.Proofs.Ytoaoabnhkiijpaa.SL.W Go.Proofs.Ytoaoabnhkiijpaa.SL.C Go.Proofs.Ytoaoabnhkiijpaa.SL.H Go.Proofs.Ytoaoabnhkiijpaa.X1 Go.Proofs.Ytoaoabnhkiijpaa.X2 Go.Proofs.Ytoaoabnhkiijpaa.X3 Go.Proofs.Ytoaoabnhkiijpaa.X4 Go.Proofs.Ytoaoabnhkiijpaa.X5 Go.Proofs.Ytoaoabnhkiijpaa.X6 Go.Proofs.Ytoaoabnhkiijpaa.X7 Go.Proofs.Ytoaoabnhkiijpaa.X8 Go.Proofs.Ytoaoabnhkiijpaa.X9
set_option linter.unusedVariables false
set_option linter.unusedSimpArgs false
set_option maxRecDepth 100000
set_option maxHeartbeats 40000000
def U : Tab where
  und := [(3, .int .i64), (5, .int .u8), (22, .slice 5)]
  fld := []
  sz := [(3, 1), (5, 1), (22, 1)]
  ti := [(3, (1, 8, .int .i64 0)), (5, (1, 1, .int .u8 0)), (22, (1, 24, .slice none 0 0))]
  bld := []

theorem hU : U.OK Try.prog where
  und := by
    intro p hp
    simp only [U, List.mem_cons, List.not_mem_nil, or_false] at hp
    rcases hp with rfl | rfl | rfl
    · exact Try.underlying3
    · exact Try.underlying5
    · exact Try.underlying22
  fld := by
    intro p hp; cases hp
  sz := by
    intro p hp
    simp only [U, List.mem_cons, List.not_mem_nil, or_false] at hp
    rcases hp with rfl | rfl | rfl
    · exact ⟨Try.prog.types[3]!, by kernel_rfl, by kernel_rfl⟩
    · exact ⟨Try.prog.types[5]!, by kernel_rfl, by kernel_rfl⟩
    · exact ⟨Try.prog.types[22]!, by kernel_rfl, by kernel_rfl⟩
  ti := by
    intro p hp
    simp only [U, List.mem_cons, List.not_mem_nil, or_false] at hp
    rcases hp with rfl | rfl | rfl
    · exact ⟨Try.prog.types[3]!, by kernel_rfl, by kernel_rfl, by kernel_rfl, by kernel_rfl⟩
    · exact ⟨Try.prog.types[5]!, by kernel_rfl, by kernel_rfl, by kernel_rfl, by kernel_rfl⟩
    · exact ⟨Try.prog.types[22]!, by kernel_rfl, by kernel_rfl, by kernel_rfl, by kernel_rfl⟩
  bld := by
    intro p hp; cases hp
  mixed := by kernel_rfl

theorem l2_ShaEnds_spec (x : Int) (n : Int) (hx : fits .u8 x) (hn : fits .u8 n) :
    CallsS Try.prog 9 [.int .u8 x, .int .u8 n] [] (fun r D => r = .bool true ∧ D = []) := by
  refine CallsS.enter hU Try.f9 _ [.tmp 4] 27 Try.func9 rfl (by decide) rfl rfl (by kernel_rfl) fun w0 W => ?_
  have hn2 := hn; simp only [fits] at hn2
  refine RunC.seq ?_
  refine RunC.region ?_
  refine RunR.sil hU [] 1 1 [0, 1, 4] [(0, .int .u8 x), (1, .int .u8 n), (4, .bool false)] ((True) ∧ True) rfl (by kernel_rfl) ⟨trivial, trivial⟩ ?_
  refine RunR.done (by kernel_rfl) ?_
  refine kseq_n ?_
  refine RunC.seq ?_
  refine RunC.seq ?_
  refine RunC.region ?_
  refine RunR.step (dst := some 7) (op := .call { callee := .value (.func 21), args := #[], argTypes := #[] }) (by kernel_rfl) (Step.call 21 [] (by kernel_rfl) (by kernel_rfl) [] [] [] (l2_awake_spec) [] (by kernel_rfl) (Lend.nil _) ?_)
  rintro _ _ ⟨rfl, rfl⟩
  refine RunR.sil hU [] 1 2 [0, 1, 4, 8] [(0, .int .u8 x), (1, .int .u8 n), (4, .bool false), (8, .bool false)] ((True) ∧ True) rfl (by kernel_rfl) ⟨trivial, trivial⟩ ?_
  refine RunR.done (by kernel_rfl) ?_
  refine kseq_n ?_
  refine RunC.cond (b := false) (by kernel_rfl) (fun h => by cases h) (fun _ => ?_)
  refine RunC.skip ?_
  refine kseq_n ?_
  refine RunC.seq ?_
  refine RunC.region ?_
  refine RunR.sil hU [1] 2 2 [0, 4, 10] [(0, .int .u8 x), (4, .bool false), (10, .int .i64 n)] ((True) ∧ (-9223372036854775808 ≤ n ∧ n < 9223372036854775808) ∧ True) rfl (by kernel_rfl) ⟨trivial, (by omega), trivial⟩ ?_
  refine RunR.step (dst := some 11) (op := .makeSlice 22 (.tmp 10) (.tmp 10)) (by kernel_rfl) (Step.make_nums hU 5 1 .u8 .i64 .i64 (n) rfl rfl (by kernel_rfl) (by kernel_rfl) (by omega) (by omega) (by kernel_rfl) (fun b1 => ?_))
  have hl2 : (List.replicate ((n).toNat) (0 : Int)).length = (n).toNat := List.length_replicate
  refine RunR.sil hU [] 1 4 [0, 4, 5] [(0, .int .u8 x), (4, .bool false), (5, .slice (some ⟨b1, 0, none⟩) ((n).toNat) ((n).toNat))] ((True) ∧ True) rfl (by kernel_rfl) ⟨trivial, trivial⟩ ?_
  refine RunR.done (by kernel_rfl) ?_
  refine kseq_n ?_
  refine RunC.seq ?_
  refine RunC.seq ?_
  refine RunC.region ?_
  refine RunR.sil hU [] 1 1 [0, 4, 5, 6] [(0, .int .u8 x), (4, .bool false), (5, .slice (some ⟨b1, 0, none⟩) ((n).toNat) ((n).toNat)), (6, .int .i64 0)] ((True) ∧ True) rfl (by kernel_rfl) ⟨trivial, trivial⟩ ?_
  refine RunR.done (by kernel_rfl) ?_
  refine kseq_n ?_
  refine RunC.block ?_
  refine RunC.env [0, 4, 5, 6] [(0, .int .u8 x), (4, .bool false), (5, .slice (some ⟨b1, 0, none⟩) ((n).toNat) ((n).toNat)), (6, .int .i64 0)] (by kernel_rfl) ?_
  refine RunC.only [0] [row 5 1 (.slice (some ⟨b1, 0, none⟩) ((n).toNat) ((n).toNat)) ((n).toNat) (nums .u8 (List.replicate ((n).toNat) (0 : Int)))] (by kernel_rfl) ?_
  refine RunC.loop (σ := Nat) (fun n_ t_ D_ => ∃ (i : Int) (zs : List Int), (0 ≤ i) ∧ (zs.length = n.toNat) ∧ (In .u8 zs) ∧ n_ = ((n - i).toNat : Nat) ∧ t_ = [(0, .int .u8 x), (4, .bool false), (5, .slice (some ⟨b1, 0, none⟩) ((n).toNat) ((n).toNat)), (6, .int .i64 i)] ∧ D_ = [row 5 1 (.slice (some ⟨b1, 0, none⟩) ((n).toNat) ((n).toNat)) ((n).toNat) (nums .u8 zs)]) id _ ⟨0, (List.replicate ((n).toNat) (0 : Int)), (by first | assumption | omega | (simp only [List.length_append, List.length_cons, List.length_nil, List.length_set, List.length_replicate, List.length_take, List.length_drop]; omega) | (simp only [fits] at *; omega) | (simp only [List.length_append, List.length_cons, List.length_nil, List.length_set, List.length_replicate, List.length_take, List.length_drop] at *; omega) | (simp; done) | decide), (by simp), (by exact In.replicate _ _), rfl, rfl, rfl⟩ ?_
  rintro n_ _ _ ⟨i, zs, hi, hzl, hzi, rfl, rfl, rfl⟩
  refine RunC.seq ?_
  refine RunC.seq ?_
  refine RunC.region ?_
  refine RunR.sil hU [] 4 4 [0, 4, 5, 6, 15] [(0, .int .u8 x), (4, .bool false), (5, .slice (some ⟨b1, 0, none⟩) ((n).toNat) ((n).toNat)), (6, .int .i64 i), (15, .bool (decide (i < (((n).toNat : Nat) : Int))))] ((True) ∧ (True) ∧ (True) ∧ (True) ∧ True) rfl (by kernel_rfl) ⟨trivial, trivial, trivial, trivial, trivial⟩ ?_
  refine RunR.done (by kernel_rfl) ?_
  refine kseq_n ?_
  refine RunC.condp (i < (((n).toNat : Nat) : Int)) (by kernel_rfl) (fun h3 => ?_) (fun h3 => ?_)
  · skip
    refine RunC.skip ?_
    refine kseq_n ?_
    refine RunC.seq ?_
    refine RunC.block ?_
    refine RunC.region ?_
    refine RunR.sil hU [] 4 4 [0, 4, 5, 6, 20, 21] [(0, .int .u8 x), (4, .bool false), (5, .slice (some ⟨b1, 0, none⟩) ((n).toNat) ((n).toNat)), (6, .int .i64 i), (20, .int .u8 x), (21, .pointer (elemAt (some ⟨b1, 0, none⟩) i 1))] ((True) ∧ (True) ∧ (True) ∧ ((0 ≤ i ∧ i < (((n).toNat : Nat) : Int)) ∧ Option.isSome (some ⟨b1, 0, none⟩ : Option Addr) = true) ∧ True) rfl (by kernel_rfl) ⟨trivial, trivial, trivial, ⟨by omega, rfl⟩, trivial⟩ ?_
    refine RunR.step (dst := none) (op := .store 5 (.tmp 21) (.tmp 20)) (by kernel_rfl) (Step.store_num hU 0 5 ((n).toNat) ((n).toNat) (some ⟨b1, 0, none⟩) .u8 zs i x (by kernel_rfl) (by kernel_rfl) (by kernel_rfl) rfl (by omega) ?_)
    have hl4 : (zs.set (i).toNat x).length = zs.length := List.length_set
    refine RunR.done (by kernel_rfl) ?_
    refine kblock_n ?_
    refine kseq_n ?_
    refine RunC.region ?_
    refine RunR.sil hU [1] 3 3 [0, 4, 5, 6] [(0, .int .u8 x), (4, .bool false), (5, .slice (some ⟨b1, 0, none⟩) ((n).toNat) ((n).toNat)), (6, .int .i64 (i + 1))] ((True) ∧ (-9223372036854775808 ≤ (i + 1) ∧ (i + 1) < 9223372036854775808) ∧ (True) ∧ True) rfl (by kernel_rfl) ⟨trivial, (by omega), trivial, trivial⟩ ?_
    refine RunR.done (by kernel_rfl) ?_
    refine kloop_n _ [0, 4, 5, 6] [0] [(0, .int .u8 x), (4, .bool false), (5, .slice (some ⟨b1, 0, none⟩) ((n).toNat) ((n).toNat)), (6, .int .i64 (i + 1))] [row 5 1 (.slice (some ⟨b1, 0, none⟩) ((n).toNat) ((n).toNat)) ((n).toNat) (nums .u8 (zs.set (i).toNat x))] (by kernel_rfl) (by kernel_rfl) ?_ ⟨(i + 1), (zs.set (i).toNat x), (by first | assumption | omega | (simp only [List.length_append, List.length_cons, List.length_nil, List.length_set, List.length_replicate, List.length_take, List.length_drop]; omega) | (simp only [fits] at *; omega) | (simp only [List.length_append, List.length_cons, List.length_nil, List.length_set, List.length_replicate, List.length_take, List.length_drop] at *; omega) | (simp; done) | decide), (by simpa using hzl), (by (repeat first | assumption | (simp only [fits]; omega) | with_reducible first | exact fits_wrap _ _ | exact fits_bits2 _ _ _ _ | exact In.nil _ | exact In.sb _ | exact In.replicate _ _ | apply In.append | apply In.cons | apply In.set | apply In.take | apply In.drop | apply In.rev)), rfl, (by rfl), (by rfl)⟩
    show ((n - (i + 1)).toNat : Nat) < ((n - i).toNat : Nat)
    omega
  · skip
    refine RunC.exit ?_
    refine kseq_e ?_
    refine kloop_e ?_
    refine kblock_e ?_
    refine kseq_n ?_
    refine RunC.seq ?_
    refine RunC.region ?_
    refine RunR.sil hU [] 1 1 [4, 5, 22] [(4, .bool false), (5, .slice (some ⟨b1, 0, none⟩) ((n).toNat) ((n).toNat)), (22, .slice (some ⟨b1, 0, none⟩) ((n).toNat) ((n).toNat))] ((True) ∧ True) rfl (by kernel_rfl) ⟨trivial, trivial⟩ ?_
    refine RunR.step (dst := some 23) (op := .call { callee := .value (.func 22), args := #[.tmp 22], argTypes := #[22] }) (by kernel_rfl) (Step.call 22 [.slice (some ⟨b1, 0, none⟩) ((n).toNat) ((n).toNat)] (by kernel_rfl) (by kernel_rfl) [] [vw (some ⟨b1, 0, none⟩) (nums .u8 zs)] [row 5 1 (.slice (some ⟨b1, 0, none⟩) ((n).toNat) ((n).toNat)) ((n).toNat) (nums .u8 zs)] (h_Of_spec (some ⟨b1, 0, none⟩) ((n).toNat) zs ((n).toNat) hzi (by first | assumption | omega | (simp only [List.length_append, List.length_cons, List.length_nil, List.length_set, List.length_replicate, List.length_take, List.length_drop]; omega) | (simp only [fits] at *; omega) | (simp only [List.length_append, List.length_cons, List.length_nil, List.length_set, List.length_replicate, List.length_take, List.length_drop] at *; omega) | (simp; done) | decide) (by first | assumption | omega | (simp only [List.length_append, List.length_cons, List.length_nil, List.length_set, List.length_replicate, List.length_take, List.length_drop]; omega) | (simp only [fits] at *; omega) | (simp only [List.length_append, List.length_cons, List.length_nil, List.length_set, List.length_replicate, List.length_take, List.length_drop] at *; omega) | (simp; done) | decide) (by first | rfl | assumption | omega | (simp only [List.length_append, List.length_cons, List.length_nil, List.length_set, List.length_replicate, List.length_take, List.length_drop]; omega) | (simp; done))) [] (by kernel_rfl) ((Lend.nil _).tells 0 (row 5 1 (.slice (some ⟨b1, 0, none⟩) ((n).toNat) ((n).toNat)) ((n).toNat) (nums .u8 zs)) (some ⟨b1, 0, none⟩) (nums .u8 zs) (by kernel_rfl) (tells_row _ _ _ _ _ _)) ?_)
    rintro _ _ ⟨A25, c26, zs7, rfl, rfl, hp8, hp9, hp10, hp11, hp12⟩
    refine RunR.sil hU [] 1 3 [4, 23, 24] [(4, .bool false), (23, .slice A25 zs7.length c26), (24, .slice (some ⟨b1, 0, none⟩) ((n).toNat) ((n).toNat))] ((True) ∧ True) rfl (by kernel_rfl) ⟨trivial, trivial⟩ ?_
    refine RunR.step (dst := some 25) (op := .call { callee := .value (.func 23), args := #[.tmp 24], argTypes := #[22] }) (by kernel_rfl) (Step.call 23 [.slice (some ⟨b1, 0, none⟩) ((n).toNat) ((n).toNat)] (by kernel_rfl) (by kernel_rfl) [] [vw (some ⟨b1, 0, none⟩) (nums .u8 zs)] [row 5 1 (.slice A25 zs7.length c26) zs7.length (nums .u8 zs7), row 5 1 (.slice (some ⟨b1, 0, none⟩) ((n).toNat) ((n).toNat)) ((n).toNat) (nums .u8 zs)] (hr_Of_spec (some ⟨b1, 0, none⟩) ((n).toNat) zs ((n).toNat) hzi (by first | assumption | omega | (simp only [List.length_append, List.length_cons, List.length_nil, List.length_set, List.length_replicate, List.length_take, List.length_drop]; omega) | (simp only [fits] at *; omega) | (simp only [List.length_append, List.length_cons, List.length_nil, List.length_set, List.length_replicate, List.length_take, List.length_drop] at *; omega) | (simp; done) | decide) (by first | rfl | assumption | omega | (simp only [List.length_append, List.length_cons, List.length_nil, List.length_set, List.length_replicate, List.length_take, List.length_drop]; omega) | (simp; done))) [] (by kernel_rfl) ((Lend.nil _).tells 1 (row 5 1 (.slice (some ⟨b1, 0, none⟩) ((n).toNat) ((n).toNat)) ((n).toNat) (nums .u8 zs)) (some ⟨b1, 0, none⟩) (nums .u8 zs) (by kernel_rfl) (tells_row _ _ _ _ _ _)) ?_)
    rintro _ _ ⟨A213, c214, zs15, rfl, rfl, hp16, hp17, hp18, hp19, hp20⟩
    refine RunR.step (dst := some 26) (op := .call { callee := .value (.func 17), args := #[.tmp 23, .tmp 25], argTypes := #[22, 22] }) (by kernel_rfl) (Step.call 17 [.slice A25 zs7.length c26, .slice A213 zs15.length c214] (by kernel_rfl) (by kernel_rfl) [] [vw A25 (nums .u8 zs7), vw A213 (nums .u8 zs15)] [row 5 1 (.slice A213 zs15.length c214) zs15.length (nums .u8 zs15), row 5 1 (.slice A25 zs7.length c26) zs7.length (nums .u8 zs7), row 5 1 (.slice (some ⟨b1, 0, none⟩) ((n).toNat) ((n).toNat)) ((n).toNat) (nums .u8 zs)] (r_Equal_spec A25 c26 zs7 A213 c214 zs15 zs7.length zs15.length hp10 (by first | assumption | omega | (simp only [List.length_append, List.length_cons, List.length_nil, List.length_set, List.length_replicate, List.length_take, List.length_drop]; omega) | (simp only [fits] at *; omega) | (simp only [List.length_append, List.length_cons, List.length_nil, List.length_set, List.length_replicate, List.length_take, List.length_drop] at *; omega) | (simp; done) | decide) hp18 (by first | assumption | omega | (simp only [List.length_append, List.length_cons, List.length_nil, List.length_set, List.length_replicate, List.length_take, List.length_drop]; omega) | (simp only [fits] at *; omega) | (simp only [List.length_append, List.length_cons, List.length_nil, List.length_set, List.length_replicate, List.length_take, List.length_drop] at *; omega) | (simp; done) | decide) (by first | rfl | assumption | omega | (simp only [List.length_append, List.length_cons, List.length_nil, List.length_set, List.length_replicate, List.length_take, List.length_drop]; omega) | (simp; done)) (by first | rfl | assumption | omega | (simp only [List.length_append, List.length_cons, List.length_nil, List.length_set, List.length_replicate, List.length_take, List.length_drop]; omega) | (simp; done))) [] (by kernel_rfl) (((Lend.nil _).tells 0 (row 5 1 (.slice A213 zs15.length c214) zs15.length (nums .u8 zs15)) A213 (nums .u8 zs15) (by kernel_rfl) (tells_row _ _ _ _ _ _)).tells 1 (row 5 1 (.slice A25 zs7.length c26) zs7.length (nums .u8 zs7)) A25 (nums .u8 zs7) (by kernel_rfl) (tells_row _ _ _ _ _ _)) ?_)
    rintro _ _ ⟨rfl, rfl⟩
    refine RunR.sil hU [] 1 6 [4] [(4, .bool (decide (zs7 = zs15)))] ((True) ∧ True) rfl (by kernel_rfl) ⟨trivial, trivial⟩ ?_
    refine RunR.env [4] [(4, .bool (decide (zs7 = zs15)))] (by kernel_rfl) ?_
    have hk21 : (zs7 = zs15) := by simp only [hp8, hp16, List.nil_append, List.append_nil]
    refine RunR.enveq [(4, .bool true)] (by rw [decide_eq_true hk21]; try rfl) ?_
    refine RunR.done (by kernel_rfl) ?_
    refine kseq_n ?_
    refine RunC.ret ?_
    refine kret_r [.bool true] [] [] ⟨rfl, trivial⟩ (by kernel_rfl) rfl ⟨rfl, rfl⟩
end Go.Proofs.Ytoaoabnhkiijpaa.LShaEnds
