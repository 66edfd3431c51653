/- The law ShaDigests returns true whatever it is handed: its walk, on the contracts of what it calls. -/
import Derived.Test.YtoaoabnhkiijpaaHPure
import Derived.Test.YtoaoabnhkiijpaaProg
import Derived.Test.YtoaoabnhkiijpaaX1
import Derived.Test.YtoaoabnhkiijpaaX2
import Derived.Test.YtoaoabnhkiijpaaX3
import Derived.Test.YtoaoabnhkiijpaaX4
import Derived.Test.YtoaoabnhkiijpaaX5
import Derived.Test.YtoaoabnhkiijpaaX6
import Derived.Test.YtoaoabnhkiijpaaX7
import Derived.Test.YtoaoabnhkiijpaaX8
import Derived.Test.YtoaoabnhkiijpaaX9
namespace Go.Proofs.Ytoaoabnhkiijpaa.LShaDigests
open Go Go.Proofs.Ytoaoabnhkiijpaa.SL Go.Proofs.Ytoaoabnhkiijpaa.SL.W Go.Proofs.Ytoaoabnhkiijpaa.SL.C Go.Proofs.Ytoaoabnhkiijpaa.SL.H Go.Proofs.Ytoaoabnhkiijpaa.X1 Go.Proofs.Ytoaoabnhkiijpaa.X2 Go.Proofs.Ytoaoabnhkiijpaa.X3 Go.Proofs.Ytoaoabnhkiijpaa.X4 Go.Proofs.Ytoaoabnhkiijpaa.X5 Go.Proofs.Ytoaoabnhkiijpaa.X6 Go.Proofs.Ytoaoabnhkiijpaa.X7 Go.Proofs.Ytoaoabnhkiijpaa.X8 Go.Proofs.Ytoaoabnhkiijpaa.X9
set_option linter.unusedVariables false
set_option linter.unusedSimpArgs false
set_option maxRecDepth 100000
set_option maxHeartbeats 40000000
def U : Tab where
  und := [(3, .int .i64), (5, .int .u8), (22, .slice 5)]
  fld := []
  sz := [(3, 1), (5, 1), (22, 1)]
  ti := [(3, (1, 8, .int .i64 0)), (5, (1, 1, .int .u8 0)), (22, (1, 24, .slice none 0 0))]
  bld := []

theorem hU : U.OK Try.prog where
  und := by
    intro p hp
    simp only [U, List.mem_cons, List.not_mem_nil, or_false] at hp
    rcases hp with rfl | rfl | rfl
    · exact Try.underlying3
    · exact Try.underlying5
    · exact Try.underlying22
  fld := by
    intro p hp; cases hp
  sz := by
    intro p hp
    simp only [U, List.mem_cons, List.not_mem_nil, or_false] at hp
    rcases hp with rfl | rfl | rfl
    · exact ⟨Try.prog.types[3]!, by kernel_rfl, by kernel_rfl⟩
    · exact ⟨Try.prog.types[5]!, by kernel_rfl, by kernel_rfl⟩
    · exact ⟨Try.prog.types[22]!, by kernel_rfl, by kernel_rfl⟩
  ti := by
    intro p hp
    simp only [U, List.mem_cons, List.not_mem_nil, or_false] at hp
    rcases hp with rfl | rfl | rfl
    · exact ⟨Try.prog.types[3]!, by kernel_rfl, by kernel_rfl, by kernel_rfl, by kernel_rfl⟩
    · exact ⟨Try.prog.types[5]!, by kernel_rfl, by kernel_rfl, by kernel_rfl, by kernel_rfl⟩
    · exact ⟨Try.prog.types[22]!, by kernel_rfl, by kernel_rfl, by kernel_rfl, by kernel_rfl⟩
  bld := by
    intro p hp; cases hp
  mixed := by kernel_rfl

theorem l2_ShaDigests_spec (A : Option Addr) (c : Nat) (bs : List Int) (l_bs : Nat) (hb : In .u8 bs) (hbc : bs.length ≤ c) (hbl : bs.length ≤ 140737488351232) (hl_bs : bs.length = l_bs) :
    CallsS Try.prog 7 [.slice A l_bs c] [vw A (nums .u8 bs)] (fun r D => r = .bool true ∧ D = []) := by
  subst hl_bs
  refine CallsS.enter hU Try.f7 _ [.tmp 2] 22 Try.func7 rfl (by decide) rfl rfl (by kernel_rfl) fun w0 W => ?_
  refine RunC.know (p := 0 < bs.length → Option.isSome A = true) (fun w hs => vw_some hs 0 rfl (by simp [nums_length])) (fun hA1 => ?_)
  refine RunC.seq ?_
  refine RunC.region ?_
  refine RunR.sil hU [] 1 1 [0, 2] [(0, .slice A bs.length c), (2, .bool false)] ((True) ∧ True) rfl (by kernel_rfl) ⟨trivial, trivial⟩ ?_
  refine RunR.done (by kernel_rfl) ?_
  refine kseq_n ?_
  refine RunC.seq ?_
  refine RunC.seq ?_
  refine RunC.region ?_
  refine RunR.step (dst := some 4) (op := .call { callee := .value (.func 21), args := #[], argTypes := #[] }) (by kernel_rfl) (Step.call 21 [] (by kernel_rfl) (by kernel_rfl) [] [] [vw A (nums .u8 bs)] (l2_awake_spec) [] (by kernel_rfl) (Lend.nil _) ?_)
  rintro _ _ ⟨rfl, rfl⟩
  refine RunR.sil hU [] 1 2 [0, 2, 5] [(0, .slice A bs.length c), (2, .bool false), (5, .bool false)] ((True) ∧ True) rfl (by kernel_rfl) ⟨trivial, trivial⟩ ?_
  refine RunR.done (by kernel_rfl) ?_
  refine kseq_n ?_
  refine RunC.cond (b := false) (by kernel_rfl) (fun h => by cases h) (fun _ => ?_)
  refine RunC.skip ?_
  refine kseq_n ?_
  refine RunC.seq ?_
  refine RunC.seq ?_
  refine RunC.region ?_
  refine RunR.sil hU [] 3 3 [0, 2, 8] [(0, .slice A bs.length c), (2, .bool false), (8, .bool (decide (((bs.length : Nat) : Int) > 4096)))] ((True) ∧ (True) ∧ (True) ∧ True) rfl (by kernel_rfl) ⟨trivial, trivial, trivial, trivial⟩ ?_
  refine RunR.done (by kernel_rfl) ?_
  refine kseq_n ?_
  refine RunC.condp (((bs.length : Nat) : Int) > 4096) (by kernel_rfl) (fun h2 => ?_) (fun h2 => ?_)
  · skip
    refine RunC.seq ?_
    refine RunC.region ?_
    refine RunR.sil hU [] 1 1 [0, 2] [(0, .slice A bs.length c), (2, .bool true)] ((True) ∧ True) rfl (by kernel_rfl) ⟨trivial, trivial⟩ ?_
    refine RunR.done (by kernel_rfl) ?_
    refine kseq_n ?_
    refine RunC.ret ?_
    refine kseq_r ?_
    refine kret_r [.bool true] [] [] ⟨rfl, trivial⟩ (by kernel_rfl) rfl ⟨rfl, rfl⟩
  · skip
    refine RunC.skip ?_
    refine kseq_n ?_
    refine RunC.seq ?_
    refine RunC.region ?_
    refine RunR.step (dst := some 9) (op := .buildSlice 22 0 #[]) (by kernel_rfl) (Step.lit_nums hU 5 1 .u8 (.int .u8 0) ([] : List Int) rfl rfl (by kernel_rfl) rfl rfl (by kernel_rfl) (fun b3 => ?_))
    have hl4 : (([] : List Int)).length = 0 := rfl
    refine RunR.sil hU [] 1 2 [0, 2, 9, 10] [(0, .slice A bs.length c), (2, .bool false), (9, .slice (some ⟨b3, 0, none⟩) 0 0), (10, .slice A bs.length c)] ((True) ∧ True) rfl (by kernel_rfl) ⟨trivial, trivial⟩ ?_
    have hl9 : (([] : List Int)).length = 0 := rfl
    refine RunR.step (dst := some 11) (op := .call { callee := .builtin .append, args := #[.tmp 9, .tmp 10], argTypes := #[22, 22] }) (by kernel_rfl) (Step.append_nums hU 5 1 (.int .u8 0) .u8 0 1 (some ⟨b3, 0, none⟩) 0 0 ([] : List Int) A bs.length c (vw A (nums .u8 bs)) bs rfl rfl rfl (by kernel_rfl) (by kernel_rfl) (by kernel_rfl) (by kernel_rfl) (tells_vw _ _) (by first | rfl | omega | (simp; omega)) (by first | rfl | omega | (simp; omega)) (by omega) (by omega) (by kernel_rfl) (fun A5 c6 hc7 hA8 => ?_))
    simp only [List.nil_append] at hc7 hA8
    refine RunR.sil hU [] 1 4 [0, 2, 3] [(0, .slice A bs.length c), (2, .bool false), (3, .slice A5 bs.length c6)] ((True) ∧ True) rfl (by kernel_rfl) ⟨trivial, trivial⟩ ?_
    refine RunR.done (by kernel_rfl) ?_
    refine kseq_n ?_
    refine RunC.seq ?_
    refine RunC.region ?_
    refine RunR.sil hU [] 1 1 [0, 2, 3, 12] [(0, .slice A bs.length c), (2, .bool false), (3, .slice A5 bs.length c6), (12, .slice A5 bs.length c6)] ((True) ∧ True) rfl (by kernel_rfl) ⟨trivial, trivial⟩ ?_
    refine RunR.step (dst := some 13) (op := .call { callee := .value (.func 22), args := #[.tmp 12], argTypes := #[22] }) (by kernel_rfl) (Step.call 22 [.slice A5 bs.length c6] (by kernel_rfl) (by kernel_rfl) [] [vw A5 (nums .u8 bs)] [row 5 1 (.slice A5 bs.length c6) bs.length (nums .u8 bs), vw A (nums .u8 bs)] (h_Of_spec A5 c6 bs bs.length hb (by first | assumption | omega | (simp only [List.length_append, List.length_cons, List.length_nil, List.length_set, List.length_replicate, List.length_take, List.length_drop]; omega) | (simp only [fits] at *; omega) | (simp only [List.length_append, List.length_cons, List.length_nil, List.length_set, List.length_replicate, List.length_take, List.length_drop] at *; omega) | (simp; done) | decide) (by first | assumption | omega | (simp only [List.length_append, List.length_cons, List.length_nil, List.length_set, List.length_replicate, List.length_take, List.length_drop]; omega) | (simp only [fits] at *; omega) | (simp only [List.length_append, List.length_cons, List.length_nil, List.length_set, List.length_replicate, List.length_take, List.length_drop] at *; omega) | (simp; done) | decide) (by first | rfl | assumption | omega | (simp only [List.length_append, List.length_cons, List.length_nil, List.length_set, List.length_replicate, List.length_take, List.length_drop]; omega) | (simp; done))) [] (by kernel_rfl) ((Lend.nil _).tells 0 (row 5 1 (.slice A5 bs.length c6) bs.length (nums .u8 bs)) A5 (nums .u8 bs) (by kernel_rfl) (tells_row _ _ _ _ _ _)) ?_)
    rintro _ _ ⟨A210, c211, zs12, rfl, rfl, hp13, hp14, hp15, hp16, hp17⟩
    refine RunR.sil hU [] 1 3 [0, 2, 3, 13, 14] [(0, .slice A bs.length c), (2, .bool false), (3, .slice A5 bs.length c6), (13, .slice A210 zs12.length c211), (14, .slice A bs.length c)] ((True) ∧ True) rfl (by kernel_rfl) ⟨trivial, trivial⟩ ?_
    refine RunR.step (dst := some 15) (op := .call { callee := .value (.func 23), args := #[.tmp 14], argTypes := #[22] }) (by kernel_rfl) (Step.call 23 [.slice A bs.length c] (by kernel_rfl) (by kernel_rfl) [] [vw A (nums .u8 bs)] [row 5 1 (.slice A210 zs12.length c211) zs12.length (nums .u8 zs12), row 5 1 (.slice A5 bs.length c6) bs.length (nums .u8 bs), vw A (nums .u8 bs)] (hr_Of_spec A c bs bs.length hb (by first | assumption | omega | (simp only [List.length_append, List.length_cons, List.length_nil, List.length_set, List.length_replicate, List.length_take, List.length_drop]; omega) | (simp only [fits] at *; omega) | (simp only [List.length_append, List.length_cons, List.length_nil, List.length_set, List.length_replicate, List.length_take, List.length_drop] at *; omega) | (simp; done) | decide) (by first | rfl | assumption | omega | (simp only [List.length_append, List.length_cons, List.length_nil, List.length_set, List.length_replicate, List.length_take, List.length_drop]; omega) | (simp; done))) [] (by kernel_rfl) ((Lend.nil _).tells 2 (vw A (nums .u8 bs)) A (nums .u8 bs) (by kernel_rfl) (tells_vw _ _)) ?_)
    rintro _ _ ⟨A218, c219, zs20, rfl, rfl, hp21, hp22, hp23, hp24, hp25⟩
    refine RunR.step (dst := some 16) (op := .call { callee := .value (.func 17), args := #[.tmp 13, .tmp 15], argTypes := #[22, 22] }) (by kernel_rfl) (Step.call 17 [.slice A210 zs12.length c211, .slice A218 zs20.length c219] (by kernel_rfl) (by kernel_rfl) [] [vw A210 (nums .u8 zs12), vw A218 (nums .u8 zs20)] [row 5 1 (.slice A218 zs20.length c219) zs20.length (nums .u8 zs20), row 5 1 (.slice A210 zs12.length c211) zs12.length (nums .u8 zs12), row 5 1 (.slice A5 bs.length c6) bs.length (nums .u8 bs), vw A (nums .u8 bs)] (r_Equal_spec A210 c211 zs12 A218 c219 zs20 zs12.length zs20.length hp15 (by first | assumption | omega | (simp only [List.length_append, List.length_cons, List.length_nil, List.length_set, List.length_replicate, List.length_take, List.length_drop]; omega) | (simp only [fits] at *; omega) | (simp only [List.length_append, List.length_cons, List.length_nil, List.length_set, List.length_replicate, List.length_take, List.length_drop] at *; omega) | (simp; done) | decide) hp23 (by first | assumption | omega | (simp only [List.length_append, List.length_cons, List.length_nil, List.length_set, List.length_replicate, List.length_take, List.length_drop]; omega) | (simp only [fits] at *; omega) | (simp only [List.length_append, List.length_cons, List.length_nil, List.length_set, List.length_replicate, List.length_take, List.length_drop] at *; omega) | (simp; done) | decide) (by first | rfl | assumption | omega | (simp only [List.length_append, List.length_cons, List.length_nil, List.length_set, List.length_replicate, List.length_take, List.length_drop]; omega) | (simp; done)) (by first | rfl | assumption | omega | (simp only [List.length_append, List.length_cons, List.length_nil, List.length_set, List.length_replicate, List.length_take, List.length_drop]; omega) | (simp; done))) [] (by kernel_rfl) (((Lend.nil _).tells 0 (row 5 1 (.slice A218 zs20.length c219) zs20.length (nums .u8 zs20)) A218 (nums .u8 zs20) (by kernel_rfl) (tells_row _ _ _ _ _ _)).tells 1 (row 5 1 (.slice A210 zs12.length c211) zs12.length (nums .u8 zs12)) A210 (nums .u8 zs12) (by kernel_rfl) (tells_row _ _ _ _ _ _)) ?_)
    rintro _ _ ⟨rfl, rfl⟩
    refine RunR.sil hU [] 1 6 [0, 2, 3, 17] [(0, .slice A bs.length c), (2, .bool false), (3, .slice A5 bs.length c6), (17, .bool (decide (zs12 = zs20)))] ((True) ∧ True) rfl (by kernel_rfl) ⟨trivial, trivial⟩ ?_
    refine RunR.env [0, 2, 3, 17] [(0, .slice A bs.length c), (2, .bool false), (3, .slice A5 bs.length c6), (17, .bool (decide (zs12 = zs20)))] (by kernel_rfl) ?_
    have hk26 : (zs12 = zs20) := by simp only [hp13, hp21, List.nil_append, List.append_nil]
    refine RunR.enveq [(0, .slice A bs.length c), (2, .bool false), (3, .slice A5 bs.length c6), (17, .bool true)] (by rw [decide_eq_true hk26]; try rfl) ?_
    refine RunR.sil hU [] 2 8 [2, 17, 18, 19] [(2, .bool false), (17, .bool true), (18, .slice A5 bs.length c6), (19, .slice A bs.length c)] ((True) ∧ (True) ∧ True) rfl (by kernel_rfl) ⟨trivial, trivial, trivial⟩ ?_
    refine RunR.step (dst := some 20) (op := .call { callee := .value (.func 17), args := #[.tmp 18, .tmp 19], argTypes := #[22, 22] }) (by kernel_rfl) (Step.call 17 [.slice A5 bs.length c6, .slice A bs.length c] (by kernel_rfl) (by kernel_rfl) [] [vw A5 (nums .u8 bs), vw A (nums .u8 bs)] [row 5 1 (.slice A218 zs20.length c219) zs20.length (nums .u8 zs20), row 5 1 (.slice A210 zs12.length c211) zs12.length (nums .u8 zs12), row 5 1 (.slice A5 bs.length c6) bs.length (nums .u8 bs), vw A (nums .u8 bs)] (r_Equal_spec A5 c6 bs A c bs bs.length bs.length hb (by first | assumption | omega | (simp only [List.length_append, List.length_cons, List.length_nil, List.length_set, List.length_replicate, List.length_take, List.length_drop]; omega) | (simp only [fits] at *; omega) | (simp only [List.length_append, List.length_cons, List.length_nil, List.length_set, List.length_replicate, List.length_take, List.length_drop] at *; omega) | (simp; done) | decide) hb (by first | assumption | omega | (simp only [List.length_append, List.length_cons, List.length_nil, List.length_set, List.length_replicate, List.length_take, List.length_drop]; omega) | (simp only [fits] at *; omega) | (simp only [List.length_append, List.length_cons, List.length_nil, List.length_set, List.length_replicate, List.length_take, List.length_drop] at *; omega) | (simp; done) | decide) (by first | rfl | assumption | omega | (simp only [List.length_append, List.length_cons, List.length_nil, List.length_set, List.length_replicate, List.length_take, List.length_drop]; omega) | (simp; done)) (by first | rfl | assumption | omega | (simp only [List.length_append, List.length_cons, List.length_nil, List.length_set, List.length_replicate, List.length_take, List.length_drop]; omega) | (simp; done))) [] (by kernel_rfl) (((Lend.nil _).tells 3 (vw A (nums .u8 bs)) A (nums .u8 bs) (by kernel_rfl) (tells_vw _ _)).tells 2 (row 5 1 (.slice A5 bs.length c6) bs.length (nums .u8 bs)) A5 (nums .u8 bs) (by kernel_rfl) (tells_row _ _ _ _ _ _)) ?_)
    rintro _ _ ⟨rfl, rfl⟩
    refine RunR.sil hU [] 2 11 [2] [(2, .bool (decide (bs = bs)))] ((True) ∧ (True) ∧ True) rfl (by kernel_rfl) ⟨trivial, trivial, trivial⟩ ?_
    refine RunR.env [2] [(2, .bool (decide (bs = bs)))] (by kernel_rfl) ?_
    have hk27 : (bs = bs) := by rfl
    refine RunR.enveq [(2, .bool true)] (by rw [decide_eq_true hk27]; try rfl) ?_
    refine RunR.done (by kernel_rfl) ?_
    refine kseq_n ?_
    refine RunC.ret ?_
    refine kret_r [.bool true] [] [] ⟨rfl, trivial⟩ (by kernel_rfl) rfl ⟨rfl, rfl⟩
end Go.Proofs.Ytoaoabnhkiijpaa.LShaDigests
