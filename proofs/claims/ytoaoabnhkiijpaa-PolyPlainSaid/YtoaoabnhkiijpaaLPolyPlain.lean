/- The law PolyPlain returns true whatever it is handed: its walk, on the contracts of what it calls. -/
import Derived.Test.YtoaoabnhkiijpaaTPure
import Derived.Test.YtoaoabnhkiijpaaRPure
import Derived.Test.YtoaoabnhkiijpaaProg
import Derived.Test.YtoaoabnhkiijpaaX1
import Derived.Test.YtoaoabnhkiijpaaX2
import Derived.Test.YtoaoabnhkiijpaaX3
import Derived.Test.YtoaoabnhkiijpaaX4
import Derived.Test.YtoaoabnhkiijpaaX5
import Derived.Test.YtoaoabnhkiijpaaX6
import Derived.Test.YtoaoabnhkiijpaaX7
import Derived.Test.YtoaoabnhkiijpaaX8
import Derived.Test.YtoaoabnhkiijpaaX9
import Derived.Test.YtoaoabnhkiijpaaY1
namespace Go.Proofs.Ytoaoabnhkiijpaa.LPolyPlain
open Go Go.Proofs.Ytoaoabnhkiijpaa.SL Go.Proofs.Ytoaoabnhkiijpaa.SL.W Go.Proofs.Ytoaoabnhkiijpaa.SL.Y Go.Proofs.Ytoaoabnhkiijpaa.X1 Go.Proofs.Ytoaoabnhkiijpaa.X2 Go.Proofs.Ytoaoabnhkiijpaa.X3 Go.Proofs.Ytoaoabnhkiijpaa.X4 Go.Proofs.Ytoaoabnhkiijpaa.X5 Go.Proofs.Ytoaoabnhkiijpaa.X6 Go.Proofs.Ytoaoabnhkiijpaa.X7 Go.Proofs.Ytoaoabnhkiijpaa.X8 Go.Proofs.Ytoaoabnhkiijpaa.X9 Go.Proofs.Ytoaoabnhkiijpaa.Y1
set_option linter.unusedVariables false
set_option linter.unusedSimpArgs false
set_option maxRecDepth 100000
set_option maxHeartbeats 40000000
def U : Tab where
  und := [(3, .int .i64), (5, .int .u8), (22, .slice 5), (25, .int .i64), (50, .array 16 5)]
  fld := []
  sz := [(3, 1), (5, 1), (22, 1), (25, 1), (50, 16)]
  ti := [(3, (1, 8, .int .i64 0)), (5, (1, 1, .int .u8 0)), (22, (1, 24, .slice none 0 0)), (25, (1, 8, .int .i64 0)), (50, (16, 16, .agg #[.int .u8 0, .int .u8 0, .int .u8 0, .int .u8 0, .int .u8 0, .int .u8 0, .int .u8 0, .int .u8 0, .int .u8 0, .int .u8 0, .int .u8 0, .int .u8 0, .int .u8 0, .int .u8 0, .int .u8 0, .int .u8 0]))]
  bld := []

theorem hU : U.OK Try.prog where
  und := by
    intro p hp
    simp only [U, List.mem_cons, List.not_mem_nil, or_false] at hp
    rcases hp with rfl | rfl | rfl | rfl | rfl
    · exact Try.underlying3
    · exact Try.underlying5
    · exact Try.underlying22
    · exact Try.underlying25
    · exact Try.underlying50
  fld := by
    intro p hp; cases hp
  sz := by
    intro p hp
    simp only [U, List.mem_cons, List.not_mem_nil, or_false] at hp
    rcases hp with rfl | rfl | rfl | rfl | rfl
    · exact ⟨Try.prog.types[3]!, by kernel_rfl, by kernel_rfl⟩
    · exact ⟨Try.prog.types[5]!, by kernel_rfl, by kernel_rfl⟩
    · exact ⟨Try.prog.types[22]!, by kernel_rfl, by kernel_rfl⟩
    · exact ⟨Try.prog.types[25]!, by kernel_rfl, by kernel_rfl⟩
    · exact ⟨Try.prog.types[50]!, by kernel_rfl, by kernel_rfl⟩
  ti := by
    intro p hp
    simp only [U, List.mem_cons, List.not_mem_nil, or_false] at hp
    rcases hp with rfl | rfl | rfl | rfl | rfl
    · exact ⟨Try.prog.types[3]!, by kernel_rfl, by kernel_rfl, by kernel_rfl, by kernel_rfl⟩
    · exact ⟨Try.prog.types[5]!, by kernel_rfl, by kernel_rfl, by kernel_rfl, by kernel_rfl⟩
    · exact ⟨Try.prog.types[22]!, by kernel_rfl, by kernel_rfl, by kernel_rfl, by kernel_rfl⟩
    · exact ⟨Try.prog.types[25]!, by kernel_rfl, by kernel_rfl, by kernel_rfl, by kernel_rfl⟩
    · exact ⟨Try.prog.types[50]!, by kernel_rfl, by kernel_rfl, by kernel_rfl, by kernel_rfl⟩
  bld := by
    intro p hp; cases hp
  mixed := by kernel_rfl

theorem l5_PolyPlain_spec (ss : List Int) (rs : List Int) (M : Option Addr) (d : Nat) (ys : List Int) (l_ys : Nat) (hs : In .u8 ss) (hsl : ss.length = 16) (hr : In .u8 rs) (hrl : rs.length = 16) (hy : In .u8 ys) (hm : ys.length ≤ 140737488351232) (hld : ys.length ≤ d) (hl_ys : ys.length = l_ys) :
    CallsS Try.prog 13 [.agg (nums .u8 ss).toArray, .agg (nums .u8 rs).toArray, .slice M l_ys d] [vw M (nums .u8 ys)] (fun r D => r = .bool true ∧ D = []) := by
  subst hl_ys
  refine CallsS.enter hU Try.f13 _ [.tmp 6] 81 Try.func13 rfl (by decide) rfl rfl (by kernel_rfl) fun w0 W => ?_
  refine RunC.know (p := 0 < ys.length → Option.isSome M = true) (fun _ _ w hs => vw_some hs 0 rfl (by simp [nums_length])) (fun hA1 => ?_)
  refine RunC.seq ?_
  refine RunC.region ?_
  refine RunR.step (dst := some 3) (op := .box 50 (.tmp 0)) (by kernel_rfl) (Step.box (.agg (nums .u8 ss).toArray) (by kernel_rfl) (by kernel_rfl) (fun b2 => ?_))
  refine RunR.step (dst := some 4) (op := .box 50 (.tmp 1)) (by kernel_rfl) (Step.box (.agg (nums .u8 rs).toArray) (by kernel_rfl) (by kernel_rfl) (fun b3 => ?_))
  refine RunR.sil hU [] 1 3 [2, 3, 4, 6] [(2, .slice M ys.length d), (3, .pointer (some ⟨b2, 0, none⟩)), (4, .pointer (some ⟨b3, 0, none⟩)), (6, .bool false)] ((True) ∧ True) rfl (by kernel_rfl) ⟨trivial, trivial⟩ ?_
  refine RunR.done (by kernel_rfl) ?_
  refine kseq_n ?_
  refine RunC.seq ?_
  refine RunC.seq ?_
  refine RunC.region ?_
  refine RunR.step (dst := some 13) (op := .call { callee := .value (.func 27), args := #[], argTypes := #[] }) (by kernel_rfl) (Step.call 27 [] (by kernel_rfl) (by kernel_rfl) [] [] [blk b3 50 (nums .u8 rs), blk b2 50 (nums .u8 ss), vw M (nums .u8 ys)] (l5_awake_spec) [] (by kernel_rfl) (Lend.nil _) ?_)
  rintro _ _ ⟨rfl, rfl⟩
  refine RunR.sil hU [] 1 2 [2, 3, 4, 6, 14] [(2, .slice M ys.length d), (3, .pointer (some ⟨b2, 0, none⟩)), (4, .pointer (some ⟨b3, 0, none⟩)), (6, .bool false), (14, .bool false)] ((True) ∧ True) rfl (by kernel_rfl) ⟨trivial, trivial⟩ ?_
  refine RunR.done (by kernel_rfl) ?_
  refine kseq_n ?_
  refine RunC.cond (b := false) (by kernel_rfl) (fun h => by cases h) (fun _ => ?_)
  refine RunC.skip ?_
  refine kseq_n ?_
  refine RunC.seq ?_
  refine RunC.seq ?_
  refine RunC.region ?_
  refine RunR.sil hU [] 3 3 [2, 3, 4, 6, 17] [(2, .slice M ys.length d), (3, .pointer (some ⟨b2, 0, none⟩)), (4, .pointer (some ⟨b3, 0, none⟩)), (6, .bool false), (17, .bool (decide (((ys.length : Nat) : Int) > 2048)))] ((True) ∧ (True) ∧ (True) ∧ True) rfl (by kernel_rfl) ⟨trivial, trivial, trivial, trivial⟩ ?_
  refine RunR.done (by kernel_rfl) ?_
  refine kseq_n ?_
  refine RunC.condp (((ys.length : Nat) : Int) > 2048) (by kernel_rfl) (fun h4 => ?_) (fun h4 => ?_)
  · skip
    refine RunC.seq ?_
    refine RunC.region ?_
    refine RunR.sil hU [] 1 1 [2, 3, 4, 6] [(2, .slice M ys.length d), (3, .pointer (some ⟨b2, 0, none⟩)), (4, .pointer (some ⟨b3, 0, none⟩)), (6, .bool true)] ((True) ∧ True) rfl (by kernel_rfl) ⟨trivial, trivial⟩ ?_
    refine RunR.done (by kernel_rfl) ?_
    refine kseq_n ?_
    refine RunC.ret ?_
    refine kseq_r ?_
    refine kret_r [.bool true] [] [] ⟨rfl, trivial⟩ (by kernel_rfl) rfl ⟨rfl, rfl⟩
  · skip
    refine RunC.skip ?_
    refine kseq_n ?_
    refine RunC.seq ?_
    refine RunC.regionU hU 11 [] [] [10] (bm 11 0) (by kernel_rfl) (by kernel_rfl) (by kernel_rfl) ?_
    refine RunU.sil hU false 1 (bm 11 2) 20 (.slice (some ⟨b3, 0, none⟩) 16 16) (True) (by kernel_rfl) trivial (by kernel_rfl) (by kernel_rfl) (fun _ _ _ h => h) ?_
    refine RunU.sil hU false 3 (bm 11 10) 22 (.slice (some ⟨b2, 0, none⟩) 16 16) (True) (by kernel_rfl) trivial (by kernel_rfl) (by kernel_rfl) (fun _ _ _ h => h) ?_
    refine RunU.one (dst := some 19) (op := .buildSlice 22 0 #[]) 0 (bm 11 11) [] (by kernel_rfl) (by kernel_rfl) (Step.lit_nums hU 5 1 .u8 (.int .u8 0) ([] : List Int) rfl rfl (by kernel_rfl) rfl rfl (by kernel_rfl) (fun b5 => ?_))
    have hl6 : (([] : List Int)).length = 0 := rfl
    refine ⟨.inl (by kernel_rfl), ?_⟩
    have hl11 : (([] : List Int)).length = 0 := rfl
    refine RunU.one (dst := some 21) (op := .call { callee := .builtin .append, args := #[.tmp 19, .tmp 20], argTypes := #[22, 22] }) 2 (bm 11 15) [] (by kernel_rfl) (by kernel_rfl) (Step.append_nums hU 5 1 (.int .u8 0) .u8 0 1 (some ⟨b5, 0, none⟩) 0 0 ([] : List Int) (some ⟨b3, 0, none⟩) 16 16 (blk b3 50 (nums .u8 rs)) rs rfl rfl rfl (by kernel_rfl) (by kernel_rfl) (by kernel_rfl) (by kernel_rfl) (tells_blk _ _ 0 _ _ (by simp)) (by first | rfl | omega | (simp; omega)) (by first | rfl | omega | (simp; omega)) (by omega) (by omega) (by kernel_rfl) (fun Aq7 cq8 hc9 hA10 => ?_))
    simp only [List.nil_append] at hc9 hA10
    refine ⟨.inl (by kernel_rfl), ?_⟩
    refine RunU.one (dst := some 23) (op := .call { callee := .builtin .append, args := #[.tmp 21, .tmp 22], argTypes := #[22, 22] }) 4 (bm 11 31) [] (by kernel_rfl) (by kernel_rfl) (Step.append_nums hU 5 1 (.int .u8 0) .u8 0 2 Aq7 rs.length cq8 rs (some ⟨b2, 0, none⟩) 16 16 (blk b2 50 (nums .u8 ss)) ss rfl rfl rfl (by kernel_rfl) (by kernel_rfl) (by kernel_rfl) (by kernel_rfl) (tells_blk _ _ 0 _ _ (by simp)) (by first | rfl | omega | (simp; omega)) (by first | rfl | omega | (simp; omega)) (by omega) (by omega) (by kernel_rfl) (fun Aq12 cq13 hc14 hA15 => ?_))
    have hl16 : (rs ++ ss).length = rs.length + ss.length := List.length_append
    refine ⟨.inl (by kernel_rfl), ?_⟩
    refine RunU.turn ([vw none (nums .u8 ([] : List Int)), row 5 1 (.slice Aq12 ((rs ++ ss).length) cq13) ((rs ++ ss).length) (nums .u8 (rs ++ ss)), blk b3 50 (nums .u8 rs), blk b2 50 (nums .u8 ss), vw M (nums .u8 ys)]) (fun _ _ w hs => hs.nil_vw none) ?_
    refine RunU.one (dst := some 24) (op := .call { callee := .value (.func 28), args := #[.tmp 23, .const (.slice none 0 0)], argTypes := #[22, 22] }) 5 (bm 11 63) [] (by kernel_rfl) (by kernel_rfl) (Step.call 28 [.slice Aq12 ((rs ++ ss).length) cq13, .slice none 0 0] (by kernel_rfl) (by kernel_rfl) [] [vw Aq12 (nums .u8 (rs ++ ss)), vw none (nums .u8 ([] : List Int))] [vw none (nums .u8 ([] : List Int)), row 5 1 (.slice Aq12 ((rs ++ ss).length) cq13) ((rs ++ ss).length) (nums .u8 (rs ++ ss)), blk b3 50 (nums .u8 rs), blk b2 50 (nums .u8 ss), vw M (nums .u8 ys)] (y_Tag_spec Aq12 cq13 (rs ++ ss) none 0 ([] : List Int) ((rs ++ ss).length) 0 (by (repeat first | assumption | (simp only [fits]; omega) | with_reducible first | exact fits_wrap _ _ | exact fits_bits2 _ _ _ _ | exact In.nil _ | exact In.sb _ | exact In.replicate _ _ | apply In.append | apply In.cons | apply In.set | apply In.take | apply In.drop | apply In.rev)) (by first | assumption | omega | (simp only [List.length_append, List.length_cons, List.length_nil, List.length_set, List.length_replicate, List.length_take, List.length_drop]; omega) | (simp only [fits] at *; omega) | (simp only [List.length_append, List.length_cons, List.length_nil, List.length_set, List.length_replicate, List.length_take, List.length_drop] at *; omega) | (simp; done) | decide) (by (repeat first | assumption | (simp only [fits]; omega) | with_reducible first | exact fits_wrap _ _ | exact fits_bits2 _ _ _ _ | exact In.nil _ | exact In.sb _ | exact In.replicate _ _ | apply In.append | apply In.cons | apply In.set | apply In.take | apply In.drop | apply In.rev)) (by first | assumption | omega | (simp only [List.length_append, List.length_cons, List.length_nil, List.length_set, List.length_replicate, List.length_take, List.length_drop]; omega) | (simp only [fits] at *; omega) | (simp only [List.length_append, List.length_cons, List.length_nil, List.length_set, List.length_replicate, List.length_take, List.length_drop] at *; omega) | (simp; done) | decide) (by first | assumption | omega | (simp only [List.length_append, List.length_cons, List.length_nil, List.length_set, List.length_replicate, List.length_take, List.length_drop]; omega) | (simp only [fits] at *; omega) | (simp only [List.length_append, List.length_cons, List.length_nil, List.length_set, List.length_replicate, List.length_take, List.length_drop] at *; omega) | (simp; done) | decide) (by first | assumption | omega | (simp only [List.length_append, List.length_cons, List.length_nil, List.length_set, List.length_replicate, List.length_take, List.length_drop]; omega) | (simp only [fits] at *; omega) | (simp only [List.length_append, List.length_cons, List.length_nil, List.length_set, List.length_replicate, List.length_take, List.length_drop] at *; omega) | (simp; done) | decide) (by first | rfl | assumption | omega | (simp only [List.length_append, List.length_cons, List.length_nil, List.length_set, List.length_replicate, List.length_take, List.length_drop]; omega) | (simp; done)) (by first | rfl | assumption | omega | (simp only [List.length_append, List.length_cons, List.length_nil, List.length_set, List.length_replicate, List.length_take, List.length_drop]; omega) | (simp; done))) [] (by kernel_rfl) (((Lend.nil _).tells 0 (vw none (nums .u8 ([] : List Int))) none (nums .u8 ([] : List Int)) (by kernel_rfl) (tells_vw _ _)).tells 1 (row 5 1 (.slice Aq12 ((rs ++ ss).length) cq13) ((rs ++ ss).length) (nums .u8 (rs ++ ss))) Aq12 (nums .u8 (rs ++ ss)) (by kernel_rfl) (tells_row _ _ _ _ _ _)) ?_)
    rintro _ _ ⟨A217, c218, zs19, e20, rfl, rfl, hp21, hp22, hp23, hp24, hp25⟩
    refine ⟨.inl (by kernel_rfl), ?_⟩
    refine RunU.sil hU false 6 (bm 11 127) 18 (.tuple #[.slice A217 zs19.length c218, .int .i64 e20]) (True) (by kernel_rfl) trivial (by kernel_rfl) (by kernel_rfl) (fun _ _ _ h => h) ?_
    refine RunU.sil hU false 7 (bm 11 255) 25 (.slice A217 zs19.length c218) (True) (by kernel_rfl) trivial (by kernel_rfl) (by kernel_rfl) (fun _ _ _ h => h) ?_
    refine RunU.sil hU false 8 (bm 11 511) 26 (.int .i64 e20) (True) (by kernel_rfl) trivial (by kernel_rfl) (by kernel_rfl) (fun _ _ _ h => h) ?_
    refine RunU.sil hU false 9 (bm 11 1023) 7 (.slice A217 zs19.length c218) (True) (by kernel_rfl) trivial (by kernel_rfl) (by kernel_rfl) (fun _ _ _ h => h) ?_
    refine RunU.sil hU false 10 (bm 11 2047) 8 (.int .i64 e20) (True) (by kernel_rfl) trivial (by kernel_rfl) (by kernel_rfl) (fun _ _ _ h => h) ?_
    refine RunU.env [2, 3, 4, 6, 7, 8] [(2, .slice M ys.length d), (3, .pointer (some ⟨b2, 0, none⟩)), (4, .pointer (some ⟨b3, 0, none⟩)), (6, .bool false), (7, .slice A217 zs19.length c218), (8, .int .i64 e20)] (by kernel_rfl) ?_
    refine RunU.done (by kernel_rfl) ?_
    refine kseq_n ?_
    refine RunC.seq ?_
    refine RunC.region ?_
    refine RunR.step (dst := some 27) (op := .makeSlice 22 (.const (.int .i64 16)) (.const (.int .i64 16))) (by kernel_rfl) (Step.make_nums hU 5 1 .u8 .i64 .i64 (16) rfl rfl (by kernel_rfl) (by kernel_rfl) (by omega) (by omega) (by kernel_rfl) (fun b26 => ?_))
    have hl27 : (List.replicate 16 (0 : Int)).length = 16 := List.length_replicate
    refine RunR.sil hU [] 1 2 [2, 3, 4, 6, 7, 8, 9] [(2, .slice M ys.length d), (3, .pointer (some ⟨b2, 0, none⟩)), (4, .pointer (some ⟨b3, 0, none⟩)), (6, .bool false), (7, .slice A217 zs19.length c218), (8, .int .i64 e20), (9, .slice (some ⟨b26, 0, none⟩) 16 16)] ((True) ∧ True) rfl (by kernel_rfl) ⟨trivial, trivial⟩ ?_
    refine RunR.done (by kernel_rfl) ?_
    refine kseq_n ?_
    refine RunC.seq ?_
    refine RunC.seq ?_
    refine RunC.region ?_
    refine RunR.sil hU [] 1 1 [2, 3, 4, 6, 7, 8, 9, 10] [(2, .slice M ys.length d), (3, .pointer (some ⟨b2, 0, none⟩)), (4, .pointer (some ⟨b3, 0, none⟩)), (6, .bool false), (7, .slice A217 zs19.length c218), (8, .int .i64 e20), (9, .slice (some ⟨b26, 0, none⟩) 16 16), (10, .int .i64 0)] ((True) ∧ True) rfl (by kernel_rfl) ⟨trivial, trivial⟩ ?_
    refine RunR.done (by kernel_rfl) ?_
    refine kseq_n ?_
    refine RunC.block ?_
    refine RunC.env [2, 3, 4, 6, 7, 8, 9, 10] [(2, .slice M ys.length d), (3, .pointer (some ⟨b2, 0, none⟩)), (4, .pointer (some ⟨b3, 0, none⟩)), (6, .bool false), (7, .slice A217 zs19.length c218), (8, .int .i64 e20), (9, .slice (some ⟨b26, 0, none⟩) 16 16), (10, .int .i64 0)] (by kernel_rfl) ?_
    refine RunC.only [5, 4, 0, 0, 0, 0, 0] [blk b2 50 (nums .u8 ss), blk b3 50 (nums .u8 rs), row 5 1 (.slice (some ⟨b26, 0, none⟩) 16 16) 16 (nums .u8 (List.replicate 16 (0 : Int))), row 5 1 (.slice A217 zs19.length c218) zs19.length (nums .u8 zs19), vw none (nums .u8 ([] : List Int)), row 5 1 (.slice Aq12 ((rs ++ ss).length) cq13) ((rs ++ ss).length) (nums .u8 (rs ++ ss)), vw M (nums .u8 ys)] (by kernel_rfl) ?_
    refine RunC.loop (σ := Nat) (fun n_ t_ D_ => ∃ (i : Int) (fs : List Int), (0 ≤ i) ∧ (i ≤ 16) ∧ (In .u8 fs) ∧ (fs.length = 16) ∧ (ZC fs) ∧ n_ = ((16 - i).toNat : Nat) ∧ t_ = [(2, .slice M ys.length d), (3, .pointer (some ⟨b2, 0, none⟩)), (4, .pointer (some ⟨b3, 0, none⟩)), (6, .bool false), (7, .slice A217 zs19.length c218), (8, .int .i64 e20), (9, .slice (some ⟨b26, 0, none⟩) 16 16), (10, .int .i64 i)] ∧ D_ = [blk b2 50 (nums .u8 ss), blk b3 50 (nums .u8 rs), row 5 1 (.slice (some ⟨b26, 0, none⟩) 16 16) 16 (nums .u8 fs), row 5 1 (.slice A217 zs19.length c218) zs19.length (nums .u8 zs19), vw none (nums .u8 ([] : List Int)), row 5 1 (.slice Aq12 ((rs ++ ss).length) cq13) ((rs ++ ss).length) (nums .u8 (rs ++ ss)), vw M (nums .u8 ys)]) id _ ⟨0, (List.replicate 16 (0 : Int)), (by first | assumption | omega | (simp only [List.length_append, List.length_cons, List.length_nil, List.length_set, List.length_replicate, List.length_take, List.length_drop]; omega) | (simp only [fits] at *; omega) | (simp only [List.length_append, List.length_cons, List.length_nil, List.length_set, List.length_replicate, List.length_take, List.length_drop] at *; omega) | (simp; done) | decide), (by first | assumption | omega | (simp only [List.length_append, List.length_cons, List.length_nil, List.length_set, List.length_replicate, List.length_take, List.length_drop]; omega) | (simp only [fits] at *; omega) | (simp only [List.length_append, List.length_cons, List.length_nil, List.length_set, List.length_replicate, List.length_take, List.length_drop] at *; omega) | (simp; done) | decide), (by exact In.replicate _ _), (by simp), (by exact zc_zero), rfl, rfl, rfl⟩ ?_
    rintro n_ _ _ ⟨i, fs, h0i, h1i, hi_fs, hl_fs, hzc, rfl, rfl, rfl⟩
    refine RunC.seq ?_
    refine RunC.seq ?_
    refine RunC.region ?_
    refine RunR.sil hU [] 2 2 [2, 3, 4, 6, 7, 8, 9, 10, 29] [(2, .slice M ys.length d), (3, .pointer (some ⟨b2, 0, none⟩)), (4, .pointer (some ⟨b3, 0, none⟩)), (6, .bool false), (7, .slice A217 zs19.length c218), (8, .int .i64 e20), (9, .slice (some ⟨b26, 0, none⟩) 16 16), (10, .int .i64 i), (29, .bool (decide (i < 16)))] ((True) ∧ (True) ∧ True) rfl (by kernel_rfl) ⟨trivial, trivial, trivial⟩ ?_
    refine RunR.done (by kernel_rfl) ?_
    refine kseq_n ?_
    refine RunC.condp (i < 16) (by kernel_rfl) (fun h28 => ?_) (fun h28 => ?_)
    · skip
      refine RunC.skip ?_
      refine kseq_n ?_
      refine RunC.seq ?_
      refine RunC.block ?_
      refine RunC.seq ?_
      refine RunC.seq ?_
      refine RunC.region ?_
      refine RunR.sil hU [1] 3 3 [2, 3, 4, 6, 7, 8, 9, 10, 34] [(2, .slice M ys.length d), (3, .pointer (some ⟨b2, 0, none⟩)), (4, .pointer (some ⟨b3, 0, none⟩)), (6, .bool false), (7, .slice A217 zs19.length c218), (8, .int .i64 e20), (9, .slice (some ⟨b26, 0, none⟩) 16 16), (10, .int .i64 i), (34, .bool (decide ((i % (4 : Int)) = 3)))] ((True) ∧ (0 ≤ i ∧ 0 < (4 : Int)) ∧ (True) ∧ True) rfl (by kernel_rfl) ⟨trivial, (by omega), trivial, trivial⟩ ?_
      refine RunR.done (by kernel_rfl) ?_
      refine kseq_n ?_
      refine RunC.condp ((i % (4 : Int)) = 3) (by kernel_rfl) (fun h29 => ?_) (fun h29 => ?_)
      · skip
        refine RunC.region ?_
        refine RunR.sil hU [] 4 4 [2, 3, 4, 6, 7, 8, 9, 10, 35, 36, 38] [(2, .slice M ys.length d), (3, .pointer (some ⟨b2, 0, none⟩)), (4, .pointer (some ⟨b3, 0, none⟩)), (6, .bool false), (7, .slice A217 zs19.length c218), (8, .int .i64 e20), (9, .slice (some ⟨b26, 0, none⟩) 16 16), (10, .int .i64 i), (35, .slice (some ⟨b26, 0, none⟩) 16 16), (36, .int .i64 i), (38, .pointer (some ⟨b3, 0 + (i).toNat * 1, none⟩))] ((True) ∧ (True) ∧ (True) ∧ (0 ≤ i ∧ i < ((16 : Nat) : Int)) ∧ True) rfl (by kernel_rfl) ⟨trivial, trivial, trivial, (by omega), trivial⟩ ?_
        refine RunR.step (dst := some 39) (op := .load 5 (.tmp 38)) (by kernel_rfl) (Step.load_blknum hU 1 b3 (0 + (i).toNat * 1) 50 ((i).toNat) .u8 rs rfl (by kernel_rfl) (by kernel_rfl) (by kernel_rfl) (by omega) (by first | omega | (simp only [List.length_cons, List.length_nil]; omega)) ?_)
        have hb30 : 0 ≤ rs.getD ((i).toNat) 0 ∧ rs.getD ((i).toNat) 0 < 256 := hr.at_ _
        refine RunR.sil hU [5, 6] 3 8 [2, 3, 4, 6, 7, 8, 9, 10, 41, 42] [(2, .slice M ys.length d), (3, .pointer (some ⟨b2, 0, none⟩)), (4, .pointer (some ⟨b3, 0, none⟩)), (6, .bool false), (7, .slice A217 zs19.length c218), (8, .int .i64 e20), (9, .slice (some ⟨b26, 0, none⟩) 16 16), (10, .int .i64 i), (41, .int .u8 (((rs.getD ((i).toNat) 0) / (16 : Int)) * 16)), (42, .pointer (elemAt (some ⟨b26, 0, none⟩) i 1))] ((0 ≤ (rs.getD ((i).toNat) 0) ∧ 0 < (16 : Int) ∧ 0 ≤ ((rs.getD ((i).toNat) 0) / (16 : Int)) ∧ ((rs.getD ((i).toNat) 0) / (16 : Int)) < 256) ∧ (0 ≤ (((rs.getD ((i).toNat) 0) / (16 : Int)) * 16) ∧ (((rs.getD ((i).toNat) 0) / (16 : Int)) * 16) < 256) ∧ ((0 ≤ i ∧ i < ((16 : Nat) : Int)) ∧ Option.isSome (some ⟨b26, 0, none⟩ : Option Addr) = true) ∧ True) rfl (by kernel_rfl) ⟨(by omega), (by omega), ⟨by omega, rfl⟩, trivial⟩ ?_
        refine RunR.step (dst := none) (op := .store 5 (.tmp 42) (.tmp 41)) (by kernel_rfl) (Step.store_num hU 2 5 16 16 (some ⟨b26, 0, none⟩) .u8 fs i (((rs.getD ((i).toNat) 0) / (16 : Int)) * 16) (by kernel_rfl) (by kernel_rfl) (by kernel_rfl) rfl (by omega) ?_)
        have hl31 : (fs.set (i).toNat (((rs.getD ((i).toNat) 0) / (16 : Int)) * 16)).length = fs.length := List.length_set
        refine RunR.done (by kernel_rfl) ?_
        refine kseq_n ?_
        refine RunC.seq ?_
        refine RunC.region ?_
        refine RunR.sil hU [] 3 3 [2, 3, 4, 6, 7, 8, 9, 10, 45] [(2, .slice M ys.length d), (3, .pointer (some ⟨b2, 0, none⟩)), (4, .pointer (some ⟨b3, 0, none⟩)), (6, .bool false), (7, .slice A217 zs19.length c218), (8, .int .i64 e20), (9, .slice (some ⟨b26, 0, none⟩) 16 16), (10, .int .i64 i), (45, .bool (decide (i > 0)))] ((True) ∧ (True) ∧ (True) ∧ True) rfl (by kernel_rfl) ⟨trivial, trivial, trivial, trivial⟩ ?_
        refine RunR.env [2, 3, 4, 6, 7, 8, 9, 10, 45] [(2, .slice M ys.length d), (3, .pointer (some ⟨b2, 0, none⟩)), (4, .pointer (some ⟨b3, 0, none⟩)), (6, .bool false), (7, .slice A217 zs19.length c218), (8, .int .i64 e20), (9, .slice (some ⟨b26, 0, none⟩) 16 16), (10, .int .i64 i), (45, .bool (decide (i > 0)))] (by kernel_rfl) ?_
        by_cases h32 : i > 0
        · skip
          refine RunR.enveq [(2, .slice M ys.length d), (3, .pointer (some ⟨b2, 0, none⟩)), (4, .pointer (some ⟨b3, 0, none⟩)), (6, .bool false), (7, .slice A217 zs19.length c218), (8, .int .i64 e20), (9, .slice (some ⟨b26, 0, none⟩) 16 16), (10, .int .i64 i), (45, .bool true)] (by rw [decide_eq_true h32]; try rfl) ?_
          refine RunR.sil hU [4] 4 7 [2, 3, 4, 6, 7, 8, 9, 10, 49] [(2, .slice M ys.length d), (3, .pointer (some ⟨b2, 0, none⟩)), (4, .pointer (some ⟨b3, 0, none⟩)), (6, .bool false), (7, .slice A217 zs19.length c218), (8, .int .i64 e20), (9, .slice (some ⟨b26, 0, none⟩) 16 16), (10, .int .i64 i), (49, .bool (decide ((i % (4 : Int)) = 0)))] ((True) ∧ (0 ≤ i ∧ 0 < (4 : Int)) ∧ (True) ∧ (True) ∧ True) rfl (by kernel_rfl) ⟨trivial, (by omega), trivial, trivial, trivial⟩ ?_
          refine RunR.done (by kernel_rfl) ?_
          refine kseq_n ?_
          refine RunC.condp ((i % (4 : Int)) = 0) (by kernel_rfl) (fun h33 => ?_) (fun h33 => ?_)
          · skip
            refine RunC.region ?_
            refine RunR.sil hU [] 4 4 [2, 3, 4, 6, 7, 8, 9, 10, 50, 51, 53] [(2, .slice M ys.length d), (3, .pointer (some ⟨b2, 0, none⟩)), (4, .pointer (some ⟨b3, 0, none⟩)), (6, .bool false), (7, .slice A217 zs19.length c218), (8, .int .i64 e20), (9, .slice (some ⟨b26, 0, none⟩) 16 16), (10, .int .i64 i), (50, .slice (some ⟨b26, 0, none⟩) 16 16), (51, .int .i64 i), (53, .pointer (some ⟨b3, 0 + (i).toNat * 1, none⟩))] ((True) ∧ (True) ∧ (True) ∧ (0 ≤ i ∧ i < ((16 : Nat) : Int)) ∧ True) rfl (by kernel_rfl) ⟨trivial, trivial, trivial, (by omega), trivial⟩ ?_
            refine RunR.step (dst := some 54) (op := .load 5 (.tmp 53)) (by kernel_rfl) (Step.load_blknum hU 2 b3 (0 + (i).toNat * 1) 50 ((i).toNat) .u8 rs rfl (by kernel_rfl) (by kernel_rfl) (by kernel_rfl) (by omega) (by first | omega | (simp only [List.length_cons, List.length_nil]; omega)) ?_)
            have hb34 : 0 ≤ rs.getD ((i).toNat) 0 ∧ rs.getD ((i).toNat) 0 < 256 := hr.at_ _
            refine RunR.sil hU [5] 2 7 [2, 3, 4, 6, 7, 8, 9, 10, 55, 56] [(2, .slice M ys.length d), (3, .pointer (some ⟨b2, 0, none⟩)), (4, .pointer (some ⟨b3, 0, none⟩)), (6, .bool false), (7, .slice A217 zs19.length c218), (8, .int .i64 e20), (9, .slice (some ⟨b26, 0, none⟩) 16 16), (10, .int .i64 i), (55, .int .u8 ((rs.getD ((i).toNat) 0) % (4 : Int))), (56, .pointer (elemAt (some ⟨b26, 0, none⟩) i 1))] ((0 ≤ (rs.getD ((i).toNat) 0) ∧ 0 < (4 : Int)) ∧ ((0 ≤ i ∧ i < ((16 : Nat) : Int)) ∧ Option.isSome (some ⟨b26, 0, none⟩ : Option Addr) = true) ∧ True) rfl (by kernel_rfl) ⟨(by omega), ⟨by omega, rfl⟩, trivial⟩ ?_
            refine RunR.step (dst := none) (op := .store 5 (.tmp 56) (.tmp 55)) (by kernel_rfl) (Step.store_num hU 0 5 16 16 (some ⟨b26, 0, none⟩) .u8 (fs.set (i).toNat (((rs.getD ((i).toNat) 0) / (16 : Int)) * 16)) i ((rs.getD ((i).toNat) 0) % (4 : Int)) (by kernel_rfl) (by kernel_rfl) (by kernel_rfl) rfl (by omega) ?_)
            have hl35 : ((fs.set (i).toNat (((rs.getD ((i).toNat) 0) / (16 : Int)) * 16)).set (i).toNat ((rs.getD ((i).toNat) 0) % (4 : Int))).length = (fs.set (i).toNat (((rs.getD ((i).toNat) 0) / (16 : Int)) * 16)).length := List.length_set
            refine RunR.done (by kernel_rfl) ?_
            refine kblock_n ?_
            refine kseq_n ?_
            refine RunC.region ?_
            refine RunR.sil hU [1] 3 3 [2, 3, 4, 6, 7, 8, 9, 10] [(2, .slice M ys.length d), (3, .pointer (some ⟨b2, 0, none⟩)), (4, .pointer (some ⟨b3, 0, none⟩)), (6, .bool false), (7, .slice A217 zs19.length c218), (8, .int .i64 e20), (9, .slice (some ⟨b26, 0, none⟩) 16 16), (10, .int .i64 (i + 1))] ((True) ∧ (-9223372036854775808 ≤ (i + 1) ∧ (i + 1) < 9223372036854775808) ∧ (True) ∧ True) rfl (by kernel_rfl) ⟨trivial, (by omega), trivial, trivial⟩ ?_
            refine RunR.done (by kernel_rfl) ?_
            refine kloop_n _ [2, 3, 4, 6, 7, 8, 9, 10] [1, 1, 0, 0, 0, 0, 0] [(2, .slice M ys.length d), (3, .pointer (some ⟨b2, 0, none⟩)), (4, .pointer (some ⟨b3, 0, none⟩)), (6, .bool false), (7, .slice A217 zs19.length c218), (8, .int .i64 e20), (9, .slice (some ⟨b26, 0, none⟩) 16 16), (10, .int .i64 (i + 1))] [blk b2 50 (nums .u8 ss), blk b3 50 (nums .u8 rs), row 5 1 (.slice (some ⟨b26, 0, none⟩) 16 16) 16 (nums .u8 ((fs.set (i).toNat (((rs.getD ((i).toNat) 0) / (16 : Int)) * 16)).set (i).toNat ((rs.getD ((i).toNat) 0) % (4 : Int)))), row 5 1 (.slice A217 zs19.length c218) zs19.length (nums .u8 zs19), vw none (nums .u8 ([] : List Int)), row 5 1 (.slice Aq12 ((rs ++ ss).length) cq13) ((rs ++ ss).length) (nums .u8 (rs ++ ss)), vw M (nums .u8 ys)] (by kernel_rfl) (by kernel_rfl) ?_ ⟨(i + 1), ((fs.set (i).toNat (((rs.getD ((i).toNat) 0) / (16 : Int)) * 16)).set (i).toNat ((rs.getD ((i).toNat) 0) % (4 : Int))), (by first | assumption | omega | (simp only [List.length_append, List.length_cons, List.length_nil, List.length_set, List.length_replicate, List.length_take, List.length_drop]; omega) | (simp only [fits] at *; omega) | (simp only [List.length_append, List.length_cons, List.length_nil, List.length_set, List.length_replicate, List.length_take, List.length_drop] at *; omega) | (simp; done) | decide), (by first | assumption | omega | (simp only [List.length_append, List.length_cons, List.length_nil, List.length_set, List.length_replicate, List.length_take, List.length_drop]; omega) | (simp only [fits] at *; omega) | (simp only [List.length_append, List.length_cons, List.length_nil, List.length_set, List.length_replicate, List.length_take, List.length_drop] at *; omega) | (simp; done) | decide), (by repeat (first | exact hi_fs | refine In.set ?_ _ (by simp only [fits]; omega))), (by first | assumption | (simp only [List.length_set]; assumption)), (by repeat (first | exact hzc | (refine zc_set ?_ (by first | assumption | (simp only [List.length_set]; assumption)) (by omega) (by omega) (by omega)))), rfl, (by first | rfl | simp only [List.length_set]), (by first | rfl | simp only [List.length_set])⟩
            show ((16 - (i + 1)).toNat : Nat) < ((16 - i).toNat : Nat)
            omega
          · skip
            refine RunC.skip ?_
            refine kblock_n ?_
            refine kseq_n ?_
            refine RunC.region ?_
            refine RunR.sil hU [1] 3 3 [2, 3, 4, 6, 7, 8, 9, 10] [(2, .slice M ys.length d), (3, .pointer (some ⟨b2, 0, none⟩)), (4, .pointer (some ⟨b3, 0, none⟩)), (6, .bool false), (7, .slice A217 zs19.length c218), (8, .int .i64 e20), (9, .slice (some ⟨b26, 0, none⟩) 16 16), (10, .int .i64 (i + 1))] ((True) ∧ (-9223372036854775808 ≤ (i + 1) ∧ (i + 1) < 9223372036854775808) ∧ (True) ∧ True) rfl (by kernel_rfl) ⟨trivial, (by omega), trivial, trivial⟩ ?_
            refine RunR.done (by kernel_rfl) ?_
            refine kloop_n _ [2, 3, 4, 6, 7, 8, 9, 10] [1, 1, 0, 0, 0, 0, 0] [(2, .slice M ys.length d), (3, .pointer (some ⟨b2, 0, none⟩)), (4, .pointer (some ⟨b3, 0, none⟩)), (6, .bool false), (7, .slice A217 zs19.length c218), (8, .int .i64 e20), (9, .slice (some ⟨b26, 0, none⟩) 16 16), (10, .int .i64 (i + 1))] [blk b2 50 (nums .u8 ss), blk b3 50 (nums .u8 rs), row 5 1 (.slice (some ⟨b26, 0, none⟩) 16 16) 16 (nums .u8 (fs.set (i).toNat (((rs.getD ((i).toNat) 0) / (16 : Int)) * 16))), row 5 1 (.slice A217 zs19.length c218) zs19.length (nums .u8 zs19), vw none (nums .u8 ([] : List Int)), row 5 1 (.slice Aq12 ((rs ++ ss).length) cq13) ((rs ++ ss).length) (nums .u8 (rs ++ ss)), vw M (nums .u8 ys)] (by kernel_rfl) (by kernel_rfl) ?_ ⟨(i + 1), (fs.set (i).toNat (((rs.getD ((i).toNat) 0) / (16 : Int)) * 16)), (by first | assumption | omega | (simp only [List.length_append, List.length_cons, List.length_nil, List.length_set, List.length_replicate, List.length_take, List.length_drop]; omega) | (simp only [fits] at *; omega) | (simp only [List.length_append, List.length_cons, List.length_nil, List.length_set, List.length_replicate, List.length_take, List.length_drop] at *; omega) | (simp; done) | decide), (by first | assumption | omega | (simp only [List.length_append, List.length_cons, List.length_nil, List.length_set, List.length_replicate, List.length_take, List.length_drop]; omega) | (simp only [fits] at *; omega) | (simp only [List.length_append, List.length_cons, List.length_nil, List.length_set, List.length_replicate, List.length_take, List.length_drop] at *; omega) | (simp; done) | decide), (by repeat (first | exact hi_fs | refine In.set ?_ _ (by simp only [fits]; omega))), (by first | assumption | (simp only [List.length_set]; assumption)), (by repeat (first | exact hzc | (refine zc_set ?_ (by first | assumption | (simp only [List.length_set]; assumption)) (by omega) (by omega) (by omega)))), rfl, (by first | rfl | simp only [List.length_set]), (by first | rfl | simp only [List.length_set])⟩
            show ((16 - (i + 1)).toNat : Nat) < ((16 - i).toNat : Nat)
            omega
        · skip
          refine RunR.enveq [(2, .slice M ys.length d), (3, .pointer (some ⟨b2, 0, none⟩)), (4, .pointer (some ⟨b3, 0, none⟩)), (6, .bool false), (7, .slice A217 zs19.length c218), (8, .int .i64 e20), (9, .slice (some ⟨b26, 0, none⟩) 16 16), (10, .int .i64 i), (45, .bool false)] (by rw [decide_eq_false h32]; try rfl) ?_
          refine RunR.sil hU [] 4 7 [2, 3, 4, 6, 7, 8, 9, 10, 49] [(2, .slice M ys.length d), (3, .pointer (some ⟨b2, 0, none⟩)), (4, .pointer (some ⟨b3, 0, none⟩)), (6, .bool false), (7, .slice A217 zs19.length c218), (8, .int .i64 e20), (9, .slice (some ⟨b26, 0, none⟩) 16 16), (10, .int .i64 i), (49, .bool false)] ((True) ∧ True) rfl (by kernel_rfl) ⟨trivial, trivial⟩ ?_
          refine RunR.done (by kernel_rfl) ?_
          refine kseq_n ?_
          refine RunC.cond (b := false) (by kernel_rfl) (fun h => by cases h) (fun _ => ?_)
          refine RunC.skip ?_
          refine kblock_n ?_
          refine kseq_n ?_
          refine RunC.region ?_
          refine RunR.sil hU [1] 3 3 [2, 3, 4, 6, 7, 8, 9, 10] [(2, .slice M ys.length d), (3, .pointer (some ⟨b2, 0, none⟩)), (4, .pointer (some ⟨b3, 0, none⟩)), (6, .bool false), (7, .slice A217 zs19.length c218), (8, .int .i64 e20), (9, .slice (some ⟨b26, 0, none⟩) 16 16), (10, .int .i64 (i + 1))] ((True) ∧ (-9223372036854775808 ≤ (i + 1) ∧ (i + 1) < 9223372036854775808) ∧ (True) ∧ True) rfl (by kernel_rfl) ⟨trivial, (by omega), trivial, trivial⟩ ?_
          refine RunR.done (by kernel_rfl) ?_
          refine kloop_n _ [2, 3, 4, 6, 7, 8, 9, 10] [1, 1, 0, 0, 0, 0, 0] [(2, .slice M ys.length d), (3, .pointer (some ⟨b2, 0, none⟩)), (4, .pointer (some ⟨b3, 0, none⟩)), (6, .bool false), (7, .slice A217 zs19.length c218), (8, .int .i64 e20), (9, .slice (some ⟨b26, 0, none⟩) 16 16), (10, .int .i64 (i + 1))] [blk b2 50 (nums .u8 ss), blk b3 50 (nums .u8 rs), row 5 1 (.slice (some ⟨b26, 0, none⟩) 16 16) 16 (nums .u8 (fs.set (i).toNat (((rs.getD ((i).toNat) 0) / (16 : Int)) * 16))), row 5 1 (.slice A217 zs19.length c218) zs19.length (nums .u8 zs19), vw none (nums .u8 ([] : List Int)), row 5 1 (.slice Aq12 ((rs ++ ss).length) cq13) ((rs ++ ss).length) (nums .u8 (rs ++ ss)), vw M (nums .u8 ys)] (by kernel_rfl) (by kernel_rfl) ?_ ⟨(i + 1), (fs.set (i).toNat (((rs.getD ((i).toNat) 0) / (16 : Int)) * 16)), (by first | assumption | omega | (simp only [List.length_append, List.length_cons, List.length_nil, List.length_set, List.length_replicate, List.length_take, List.length_drop]; omega) | (simp only [fits] at *; omega) | (simp only [List.length_append, List.length_cons, List.length_nil, List.length_set, List.length_replicate, List.length_take, List.length_drop] at *; omega) | (simp; done) | decide), (by first | assumption | omega | (simp only [List.length_append, List.length_cons, List.length_nil, List.length_set, List.length_replicate, List.length_take, List.length_drop]; omega) | (simp only [fits] at *; omega) | (simp only [List.length_append, List.length_cons, List.length_nil, List.length_set, List.length_replicate, List.length_take, List.length_drop] at *; omega) | (simp; done) | decide), (by repeat (first | exact hi_fs | refine In.set ?_ _ (by simp only [fits]; omega))), (by first | assumption | (simp only [List.length_set]; assumption)), (by repeat (first | exact hzc | (refine zc_set ?_ (by first | assumption | (simp only [List.length_set]; assumption)) (by omega) (by omega) (by omega)))), rfl, (by first | rfl | simp only [List.length_set]), (by first | rfl | simp only [List.length_set])⟩
          show ((16 - (i + 1)).toNat : Nat) < ((16 - i).toNat : Nat)
          omega
      · skip
        refine RunC.skip ?_
        refine kseq_n ?_
        refine RunC.seq ?_
        refine RunC.region ?_
        refine RunR.sil hU [] 3 3 [2, 3, 4, 6, 7, 8, 9, 10, 45] [(2, .slice M ys.length d), (3, .pointer (some ⟨b2, 0, none⟩)), (4, .pointer (some ⟨b3, 0, none⟩)), (6, .bool false), (7, .slice A217 zs19.length c218), (8, .int .i64 e20), (9, .slice (some ⟨b26, 0, none⟩) 16 16), (10, .int .i64 i), (45, .bool (decide (i > 0)))] ((True) ∧ (True) ∧ (True) ∧ True) rfl (by kernel_rfl) ⟨trivial, trivial, trivial, trivial⟩ ?_
        refine RunR.env [2, 3, 4, 6, 7, 8, 9, 10, 45] [(2, .slice M ys.length d), (3, .pointer (some ⟨b2, 0, none⟩)), (4, .pointer (some ⟨b3, 0, none⟩)), (6, .bool false), (7, .slice A217 zs19.length c218), (8, .int .i64 e20), (9, .slice (some ⟨b26, 0, none⟩) 16 16), (10, .int .i64 i), (45, .bool (decide (i > 0)))] (by kernel_rfl) ?_
        by_cases h36 : i > 0
        · skip
          refine RunR.enveq [(2, .slice M ys.length d), (3, .pointer (some ⟨b2, 0, none⟩)), (4, .pointer (some ⟨b3, 0, none⟩)), (6, .bool false), (7, .slice A217 zs19.length c218), (8, .int .i64 e20), (9, .slice (some ⟨b26, 0, none⟩) 16 16), (10, .int .i64 i), (45, .bool true)] (by rw [decide_eq_true h36]; try rfl) ?_
          refine RunR.sil hU [4] 4 7 [2, 3, 4, 6, 7, 8, 9, 10, 49] [(2, .slice M ys.length d), (3, .pointer (some ⟨b2, 0, none⟩)), (4, .pointer (some ⟨b3, 0, none⟩)), (6, .bool false), (7, .slice A217 zs19.length c218), (8, .int .i64 e20), (9, .slice (some ⟨b26, 0, none⟩) 16 16), (10, .int .i64 i), (49, .bool (decide ((i % (4 : Int)) = 0)))] ((True) ∧ (0 ≤ i ∧ 0 < (4 : Int)) ∧ (True) ∧ (True) ∧ True) rfl (by kernel_rfl) ⟨trivial, (by omega), trivial, trivial, trivial⟩ ?_
          refine RunR.done (by kernel_rfl) ?_
          refine kseq_n ?_
          refine RunC.condp ((i % (4 : Int)) = 0) (by kernel_rfl) (fun h37 => ?_) (fun h37 => ?_)
          · skip
            refine RunC.region ?_
            refine RunR.sil hU [] 4 4 [2, 3, 4, 6, 7, 8, 9, 10, 50, 51, 53] [(2, .slice M ys.length d), (3, .pointer (some ⟨b2, 0, none⟩)), (4, .pointer (some ⟨b3, 0, none⟩)), (6, .bool false), (7, .slice A217 zs19.length c218), (8, .int .i64 e20), (9, .slice (some ⟨b26, 0, none⟩) 16 16), (10, .int .i64 i), (50, .slice (some ⟨b26, 0, none⟩) 16 16), (51, .int .i64 i), (53, .pointer (some ⟨b3, 0 + (i).toNat * 1, none⟩))] ((True) ∧ (True) ∧ (True) ∧ (0 ≤ i ∧ i < ((16 : Nat) : Int)) ∧ True) rfl (by kernel_rfl) ⟨trivial, trivial, trivial, (by omega), trivial⟩ ?_
            refine RunR.step (dst := some 54) (op := .load 5 (.tmp 53)) (by kernel_rfl) (Step.load_blknum hU 1 b3 (0 + (i).toNat * 1) 50 ((i).toNat) .u8 rs rfl (by kernel_rfl) (by kernel_rfl) (by kernel_rfl) (by omega) (by first | omega | (simp only [List.length_cons, List.length_nil]; omega)) ?_)
            have hb38 : 0 ≤ rs.getD ((i).toNat) 0 ∧ rs.getD ((i).toNat) 0 < 256 := hr.at_ _
            refine RunR.sil hU [5] 2 7 [2, 3, 4, 6, 7, 8, 9, 10, 55, 56] [(2, .slice M ys.length d), (3, .pointer (some ⟨b2, 0, none⟩)), (4, .pointer (some ⟨b3, 0, none⟩)), (6, .bool false), (7, .slice A217 zs19.length c218), (8, .int .i64 e20), (9, .slice (some ⟨b26, 0, none⟩) 16 16), (10, .int .i64 i), (55, .int .u8 ((rs.getD ((i).toNat) 0) % (4 : Int))), (56, .pointer (elemAt (some ⟨b26, 0, none⟩) i 1))] ((0 ≤ (rs.getD ((i).toNat) 0) ∧ 0 < (4 : Int)) ∧ ((0 ≤ i ∧ i < ((16 : Nat) : Int)) ∧ Option.isSome (some ⟨b26, 0, none⟩ : Option Addr) = true) ∧ True) rfl (by kernel_rfl) ⟨(by omega), ⟨by omega, rfl⟩, trivial⟩ ?_
            refine RunR.step (dst := none) (op := .store 5 (.tmp 56) (.tmp 55)) (by kernel_rfl) (Step.store_num hU 2 5 16 16 (some ⟨b26, 0, none⟩) .u8 fs i ((rs.getD ((i).toNat) 0) % (4 : Int)) (by kernel_rfl) (by kernel_rfl) (by kernel_rfl) rfl (by omega) ?_)
            have hl39 : (fs.set (i).toNat ((rs.getD ((i).toNat) 0) % (4 : Int))).length = fs.length := List.length_set
            refine RunR.done (by kernel_rfl) ?_
            refine kblock_n ?_
            refine kseq_n ?_
            refine RunC.region ?_
            refine RunR.sil hU [1] 3 3 [2, 3, 4, 6, 7, 8, 9, 10] [(2, .slice M ys.length d), (3, .pointer (some ⟨b2, 0, none⟩)), (4, .pointer (some ⟨b3, 0, none⟩)), (6, .bool false), (7, .slice A217 zs19.length c218), (8, .int .i64 e20), (9, .slice (some ⟨b26, 0, none⟩) 16 16), (10, .int .i64 (i + 1))] ((True) ∧ (-9223372036854775808 ≤ (i + 1) ∧ (i + 1) < 9223372036854775808) ∧ (True) ∧ True) rfl (by kernel_rfl) ⟨trivial, (by omega), trivial, trivial⟩ ?_
            refine RunR.done (by kernel_rfl) ?_
            refine kloop_n _ [2, 3, 4, 6, 7, 8, 9, 10] [1, 1, 0, 0, 0, 0, 0] [(2, .slice M ys.length d), (3, .pointer (some ⟨b2, 0, none⟩)), (4, .pointer (some ⟨b3, 0, none⟩)), (6, .bool false), (7, .slice A217 zs19.length c218), (8, .int .i64 e20), (9, .slice (some ⟨b26, 0, none⟩) 16 16), (10, .int .i64 (i + 1))] [blk b2 50 (nums .u8 ss), blk b3 50 (nums .u8 rs), row 5 1 (.slice (some ⟨b26, 0, none⟩) 16 16) 16 (nums .u8 (fs.set (i).toNat ((rs.getD ((i).toNat) 0) % (4 : Int)))), row 5 1 (.slice A217 zs19.length c218) zs19.length (nums .u8 zs19), vw none (nums .u8 ([] : List Int)), row 5 1 (.slice Aq12 ((rs ++ ss).length) cq13) ((rs ++ ss).length) (nums .u8 (rs ++ ss)), vw M (nums .u8 ys)] (by kernel_rfl) (by kernel_rfl) ?_ ⟨(i + 1), (fs.set (i).toNat ((rs.getD ((i).toNat) 0) % (4 : Int))), (by first | assumption | omega | (simp only [List.length_append, List.length_cons, List.length_nil, List.length_set, List.length_replicate, List.length_take, List.length_drop]; omega) | (simp only [fits] at *; omega) | (simp only [List.length_append, List.length_cons, List.length_nil, List.length_set, List.length_replicate, List.length_take, List.length_drop] at *; omega) | (simp; done) | decide), (by first | assumption | omega | (simp only [List.length_append, List.length_cons, List.length_nil, List.length_set, List.length_replicate, List.length_take, List.length_drop]; omega) | (simp only [fits] at *; omega) | (simp only [List.length_append, List.length_cons, List.length_nil, List.length_set, List.length_replicate, List.length_take, List.length_drop] at *; omega) | (simp; done) | decide), (by repeat (first | exact hi_fs | refine In.set ?_ _ (by simp only [fits]; omega))), (by first | assumption | (simp only [List.length_set]; assumption)), (by repeat (first | exact hzc | (refine zc_set ?_ (by first | assumption | (simp only [List.length_set]; assumption)) (by omega) (by omega) (by omega)))), rfl, (by first | rfl | simp only [List.length_set]), (by first | rfl | simp only [List.length_set])⟩
            show ((16 - (i + 1)).toNat : Nat) < ((16 - i).toNat : Nat)
            omega
          · skip
            refine RunC.skip ?_
            refine kblock_n ?_
            refine kseq_n ?_
            refine RunC.region ?_
            refine RunR.sil hU [1] 3 3 [2, 3, 4, 6, 7, 8, 9, 10] [(2, .slice M ys.length d), (3, .pointer (some ⟨b2, 0, none⟩)), (4, .pointer (some ⟨b3, 0, none⟩)), (6, .bool false), (7, .slice A217 zs19.length c218), (8, .int .i64 e20), (9, .slice (some ⟨b26, 0, none⟩) 16 16), (10, .int .i64 (i + 1))] ((True) ∧ (-9223372036854775808 ≤ (i + 1) ∧ (i + 1) < 9223372036854775808) ∧ (True) ∧ True) rfl (by kernel_rfl) ⟨trivial, (by omega), trivial, trivial⟩ ?_
            refine RunR.done (by kernel_rfl) ?_
            refine kloop_n _ [2, 3, 4, 6, 7, 8, 9, 10] [0, 0, 0, 0, 0, 0, 0] [(2, .slice M ys.length d), (3, .pointer (some ⟨b2, 0, none⟩)), (4, .pointer (some ⟨b3, 0, none⟩)), (6, .bool false), (7, .slice A217 zs19.length c218), (8, .int .i64 e20), (9, .slice (some ⟨b26, 0, none⟩) 16 16), (10, .int .i64 (i + 1))] [blk b2 50 (nums .u8 ss), blk b3 50 (nums .u8 rs), row 5 1 (.slice (some ⟨b26, 0, none⟩) 16 16) 16 (nums .u8 fs), row 5 1 (.slice A217 zs19.length c218) zs19.length (nums .u8 zs19), vw none (nums .u8 ([] : List Int)), row 5 1 (.slice Aq12 ((rs ++ ss).length) cq13) ((rs ++ ss).length) (nums .u8 (rs ++ ss)), vw M (nums .u8 ys)] (by kernel_rfl) (by kernel_rfl) ?_ ⟨(i + 1), fs, (by first | assumption | omega | (simp only [List.length_append, List.length_cons, List.length_nil, List.length_set, List.length_replicate, List.length_take, List.length_drop]; omega) | (simp only [fits] at *; omega) | (simp only [List.length_append, List.length_cons, List.length_nil, List.length_set, List.length_replicate, List.length_take, List.length_drop] at *; omega) | (simp; done) | decide), (by first | assumption | omega | (simp only [List.length_append, List.length_cons, List.length_nil, List.length_set, List.length_replicate, List.length_take, List.length_drop]; omega) | (simp only [fits] at *; omega) | (simp only [List.length_append, List.length_cons, List.length_nil, List.length_set, List.length_replicate, List.length_take, List.length_drop] at *; omega) | (simp; done) | decide), (by repeat (first | exact hi_fs | refine In.set ?_ _ (by simp only [fits]; omega))), (by first | assumption | (simp only [List.length_set]; assumption)), (by repeat (first | exact hzc | (refine zc_set ?_ (by first | assumption | (simp only [List.length_set]; assumption)) (by omega) (by omega) (by omega)))), rfl, (by first | rfl | simp only [List.length_set]), (by first | rfl | simp only [List.length_set])⟩
            show ((16 - (i + 1)).toNat : Nat) < ((16 - i).toNat : Nat)
            omega
        · skip
          refine RunR.enveq [(2, .slice M ys.length d), (3, .pointer (some ⟨b2, 0, none⟩)), (4, .pointer (some ⟨b3, 0, none⟩)), (6, .bool false), (7, .slice A217 zs19.length c218), (8, .int .i64 e20), (9, .slice (some ⟨b26, 0, none⟩) 16 16), (10, .int .i64 i), (45, .bool false)] (by rw [decide_eq_false h36]; try rfl) ?_
          refine RunR.sil hU [] 4 7 [2, 3, 4, 6, 7, 8, 9, 10, 49] [(2, .slice M ys.length d), (3, .pointer (some ⟨b2, 0, none⟩)), (4, .pointer (some ⟨b3, 0, none⟩)), (6, .bool false), (7, .slice A217 zs19.length c218), (8, .int .i64 e20), (9, .slice (some ⟨b26, 0, none⟩) 16 16), (10, .int .i64 i), (49, .bool false)] ((True) ∧ True) rfl (by kernel_rfl) ⟨trivial, trivial⟩ ?_
          refine RunR.done (by kernel_rfl) ?_
          refine kseq_n ?_
          refine RunC.cond (b := false) (by kernel_rfl) (fun h => by cases h) (fun _ => ?_)
          refine RunC.skip ?_
          refine kblock_n ?_
          refine kseq_n ?_
          refine RunC.region ?_
          refine RunR.sil hU [1] 3 3 [2, 3, 4, 6, 7, 8, 9, 10] [(2, .slice M ys.length d), (3, .pointer (some ⟨b2, 0, none⟩)), (4, .pointer (some ⟨b3, 0, none⟩)), (6, .bool false), (7, .slice A217 zs19.length c218), (8, .int .i64 e20), (9, .slice (some ⟨b26, 0, none⟩) 16 16), (10, .int .i64 (i + 1))] ((True) ∧ (-9223372036854775808 ≤ (i + 1) ∧ (i + 1) < 9223372036854775808) ∧ (True) ∧ True) rfl (by kernel_rfl) ⟨trivial, (by omega), trivial, trivial⟩ ?_
          refine RunR.done (by kernel_rfl) ?_
          refine kloop_n _ [2, 3, 4, 6, 7, 8, 9, 10] [0, 0, 0, 0, 0, 0, 0] [(2, .slice M ys.length d), (3, .pointer (some ⟨b2, 0, none⟩)), (4, .pointer (some ⟨b3, 0, none⟩)), (6, .bool false), (7, .slice A217 zs19.length c218), (8, .int .i64 e20), (9, .slice (some ⟨b26, 0, none⟩) 16 16), (10, .int .i64 (i + 1))] [blk b2 50 (nums .u8 ss), blk b3 50 (nums .u8 rs), row 5 1 (.slice (some ⟨b26, 0, none⟩) 16 16) 16 (nums .u8 fs), row 5 1 (.slice A217 zs19.length c218) zs19.length (nums .u8 zs19), vw none (nums .u8 ([] : List Int)), row 5 1 (.slice Aq12 ((rs ++ ss).length) cq13) ((rs ++ ss).length) (nums .u8 (rs ++ ss)), vw M (nums .u8 ys)] (by kernel_rfl) (by kernel_rfl) ?_ ⟨(i + 1), fs, (by first | assumption | omega | (simp only [List.length_append, List.length_cons, List.length_nil, List.length_set, List.length_replicate, List.length_take, List.length_drop]; omega) | (simp only [fits] at *; omega) | (simp only [List.length_append, List.length_cons, List.length_nil, List.length_set, List.length_replicate, List.length_take, List.length_drop] at *; omega) | (simp; done) | decide), (by first | assumption | omega | (simp only [List.length_append, List.length_cons, List.length_nil, List.length_set, List.length_replicate, List.length_take, List.length_drop]; omega) | (simp only [fits] at *; omega) | (simp only [List.length_append, List.length_cons, List.length_nil, List.length_set, List.length_replicate, List.length_take, List.length_drop] at *; omega) | (simp; done) | decide), (by repeat (first | exact hi_fs | refine In.set ?_ _ (by simp only [fits]; omega))), (by first | assumption | (simp only [List.length_set]; assumption)), (by repeat (first | exact hzc | (refine zc_set ?_ (by first | assumption | (simp only [List.length_set]; assumption)) (by omega) (by omega) (by omega)))), rfl, (by first | rfl | simp only [List.length_set]), (by first | rfl | simp only [List.length_set])⟩
          show ((16 - (i + 1)).toNat : Nat) < ((16 - i).toNat : Nat)
          omega
    · skip
      refine RunC.exit ?_
      refine kseq_e ?_
      refine kloop_e ?_
      refine kblock_e ?_
      refine kseq_n ?_
      refine RunC.seq ?_
      refine RunC.region ?_
      refine RunR.sil hU [] 2 2 [2, 3, 6, 7, 8, 58, 59] [(2, .slice M ys.length d), (3, .pointer (some ⟨b2, 0, none⟩)), (6, .bool false), (7, .slice A217 zs19.length c218), (8, .int .i64 e20), (58, .slice (some ⟨b26, 0, none⟩) 16 16), (59, .slice (some ⟨b2, 0, none⟩) 16 16)] ((True) ∧ (True) ∧ True) rfl (by kernel_rfl) ⟨trivial, trivial, trivial⟩ ?_
      refine RunR.step (dst := some 60) (op := .call { callee := .builtin .append, args := #[.tmp 58, .tmp 59], argTypes := #[22, 22] }) (by kernel_rfl) (Step.append_nums hU 5 1 (.int .u8 0) .u8 2 0 (some ⟨b26, 0, none⟩) 16 16 fs (some ⟨b2, 0, none⟩) 16 16 (blk b2 50 (nums .u8 ss)) ss rfl rfl rfl (by kernel_rfl) (by kernel_rfl) (by kernel_rfl) (by kernel_rfl) (tells_blk _ _ 0 _ _ (by simp)) (by first | rfl | omega | (simp; omega)) (by first | rfl | omega | (simp; omega)) (by omega) (by omega) (by kernel_rfl) (fun Aq40 cq41 hc42 hA43 => ?_))
      have hl44 : (fs ++ ss).length = fs.length + ss.length := List.length_append
      refine RunR.sil hU [] 1 4 [3, 6, 7, 8, 60, 61] [(3, .pointer (some ⟨b2, 0, none⟩)), (6, .bool false), (7, .slice A217 zs19.length c218), (8, .int .i64 e20), (60, .slice Aq40 ((fs ++ ss).length) cq41), (61, .slice M ys.length d)] ((True) ∧ True) rfl (by kernel_rfl) ⟨trivial, trivial⟩ ?_
      refine RunR.step (dst := some 62) (op := .call { callee := .value (.func 28), args := #[.tmp 60, .tmp 61], argTypes := #[22, 22] }) (by kernel_rfl) (Step.call 28 [.slice Aq40 ((fs ++ ss).length) cq41, .slice M ys.length d] (by kernel_rfl) (by kernel_rfl) [] [vw Aq40 (nums .u8 (fs ++ ss)), vw M (nums .u8 ys)] [row 5 1 (.slice Aq40 ((fs ++ ss).length) cq41) ((fs ++ ss).length) (nums .u8 (fs ++ ss)), blk b2 50 (nums .u8 ss), blk b3 50 (nums .u8 rs), row 5 1 (.slice A217 zs19.length c218) zs19.length (nums .u8 zs19), vw none (nums .u8 ([] : List Int)), row 5 1 (.slice Aq12 ((rs ++ ss).length) cq13) ((rs ++ ss).length) (nums .u8 (rs ++ ss)), vw M (nums .u8 ys)] (y_Tag_spec Aq40 cq41 (fs ++ ss) M d ys ((fs ++ ss).length) ys.length (by (repeat first | assumption | (simp only [fits]; omega) | with_reducible first | exact fits_wrap _ _ | exact fits_bits2 _ _ _ _ | exact In.nil _ | exact In.sb _ | exact In.replicate _ _ | apply In.append | apply In.cons | apply In.set | apply In.take | apply In.drop | apply In.rev)) (by first | assumption | omega | (simp only [List.length_append, List.length_cons, List.length_nil, List.length_set, List.length_replicate, List.length_take, List.length_drop]; omega) | (simp only [fits] at *; omega) | (simp only [List.length_append, List.length_cons, List.length_nil, List.length_set, List.length_replicate, List.length_take, List.length_drop] at *; omega) | (simp; done) | decide) hy (by first | assumption | omega | (simp only [List.length_append, List.length_cons, List.length_nil, List.length_set, List.length_replicate, List.length_take, List.length_drop]; omega) | (simp only [fits] at *; omega) | (simp only [List.length_append, List.length_cons, List.length_nil, List.length_set, List.length_replicate, List.length_take, List.length_drop] at *; omega) | (simp; done) | decide) (by first | assumption | omega | (simp only [List.length_append, List.length_cons, List.length_nil, List.length_set, List.length_replicate, List.length_take, List.length_drop]; omega) | (simp only [fits] at *; omega) | (simp only [List.length_append, List.length_cons, List.length_nil, List.length_set, List.length_replicate, List.length_take, List.length_drop] at *; omega) | (simp; done) | decide) (by first | assumption | omega | (simp only [List.length_append, List.length_cons, List.length_nil, List.length_set, List.length_replicate, List.length_take, List.length_drop]; omega) | (simp only [fits] at *; omega) | (simp only [List.length_append, List.length_cons, List.length_nil, List.length_set, List.length_replicate, List.length_take, List.length_drop] at *; omega) | (simp; done) | decide) (by first | rfl | assumption | omega | (simp only [List.length_append, List.length_cons, List.length_nil, List.length_set, List.length_replicate, List.length_take, List.length_drop]; omega) | (simp; done)) (by first | rfl | assumption | omega | (simp only [List.length_append, List.length_cons, List.length_nil, List.length_set, List.length_replicate, List.length_take, List.length_drop]; omega) | (simp; done))) [] (by kernel_rfl) (((Lend.nil _).tells 6 (vw M (nums .u8 ys)) M (nums .u8 ys) (by kernel_rfl) (tells_vw _ _)).tells 0 (row 5 1 (.slice Aq40 ((fs ++ ss).length) cq41) ((fs ++ ss).length) (nums .u8 (fs ++ ss))) Aq40 (nums .u8 (fs ++ ss)) (by kernel_rfl) (tells_row _ _ _ _ _ _)) ?_)
      rintro _ _ ⟨A245, c246, zs47, e48, rfl, rfl, hp49, hp50, hp51, hp52, hp53⟩
      refine RunR.sil hU [] 5 10 [3, 6, 7, 8, 11, 12] [(3, .pointer (some ⟨b2, 0, none⟩)), (6, .bool false), (7, .slice A217 zs19.length c218), (8, .int .i64 e20), (11, .slice A245 zs47.length c246), (12, .int .i64 e48)] ((True) ∧ (True) ∧ (True) ∧ (True) ∧ (True) ∧ True) rfl (by kernel_rfl) ⟨trivial, trivial, trivial, trivial, trivial, trivial⟩ ?_
      refine RunR.done (by kernel_rfl) ?_
      refine kseq_n ?_
      refine RunC.seq ?_
      refine RunC.region ?_
      refine RunR.sil hU [] 3 3 [3, 6, 7, 11, 12, 67] [(3, .pointer (some ⟨b2, 0, none⟩)), (6, .bool false), (7, .slice A217 zs19.length c218), (11, .slice A245 zs47.length c246), (12, .int .i64 e48), (67, .bool (decide (e20 = 0)))] ((True) ∧ (True) ∧ (True) ∧ True) rfl (by kernel_rfl) ⟨trivial, trivial, trivial, trivial⟩ ?_
      refine RunR.env [3, 6, 7, 11, 12, 67] [(3, .pointer (some ⟨b2, 0, none⟩)), (6, .bool false), (7, .slice A217 zs19.length c218), (11, .slice A245 zs47.length c246), (12, .int .i64 e48), (67, .bool (decide (e20 = 0)))] (by kernel_rfl) ?_
      have hk54 : (e20 = 0) := by simp only [hp21, hp22, hp49, hp50]; rw [codeL, if_pos (by first | omega | assumption)]
      refine RunR.enveq [(3, .pointer (some ⟨b2, 0, none⟩)), (6, .bool false), (7, .slice A217 zs19.length c218), (11, .slice A245 zs47.length c246), (12, .int .i64 e48), (67, .bool true)] (by rw [decide_eq_true hk54]; try rfl) ?_
      refine RunR.sil hU [] 4 7 [3, 6, 7, 11, 71] [(3, .pointer (some ⟨b2, 0, none⟩)), (6, .bool false), (7, .slice A217 zs19.length c218), (11, .slice A245 zs47.length c246), (71, .bool (decide (e48 = 0)))] ((True) ∧ (True) ∧ (True) ∧ (True) ∧ True) rfl (by kernel_rfl) ⟨trivial, trivial, trivial, trivial, trivial⟩ ?_
      refine RunR.env [3, 6, 7, 11, 71] [(3, .pointer (some ⟨b2, 0, none⟩)), (6, .bool false), (7, .slice A217 zs19.length c218), (11, .slice A245 zs47.length c246), (71, .bool (decide (e48 = 0)))] (by kernel_rfl) ?_
      have hk55 : (e48 = 0) := by simp only [hp21, hp22, hp49, hp50]; rw [codeL, if_pos (by first | omega | assumption)]
      refine RunR.enveq [(3, .pointer (some ⟨b2, 0, none⟩)), (6, .bool false), (7, .slice A217 zs19.length c218), (11, .slice A245 zs47.length c246), (71, .bool true)] (by rw [decide_eq_true hk55]; try rfl) ?_
      refine RunR.sil hU [] 2 9 [3, 6, 11, 71, 72, 73] [(3, .pointer (some ⟨b2, 0, none⟩)), (6, .bool false), (11, .slice A245 zs47.length c246), (71, .bool true), (72, .slice A217 zs19.length c218), (73, .slice (some ⟨b2, 0, none⟩) 16 16)] ((True) ∧ (True) ∧ True) rfl (by kernel_rfl) ⟨trivial, trivial, trivial⟩ ?_
      refine RunR.step (dst := some 74) (op := .call { callee := .value (.func 17), args := #[.tmp 72, .tmp 73], argTypes := #[22, 22] }) (by kernel_rfl) (Step.call 17 [.slice A217 zs19.length c218, .slice (some ⟨b2, 0, none⟩) 16 16] (by kernel_rfl) (by kernel_rfl) [] [vw A217 (nums .u8 zs19), vw (some ⟨b2, 0, none⟩) (nums .u8 ss)] [row 5 1 (.slice A245 zs47.length c246) zs47.length (nums .u8 zs47), row 5 1 (.slice Aq40 ((fs ++ ss).length) cq41) ((fs ++ ss).length) (nums .u8 (fs ++ ss)), blk b2 50 (nums .u8 ss), blk b3 50 (nums .u8 rs), row 5 1 (.slice A217 zs19.length c218) zs19.length (nums .u8 zs19), vw none (nums .u8 ([] : List Int)), row 5 1 (.slice Aq12 ((rs ++ ss).length) cq13) ((rs ++ ss).length) (nums .u8 (rs ++ ss)), vw M (nums .u8 ys)] (r_Equal_spec A217 c218 zs19 (some ⟨b2, 0, none⟩) 16 ss zs19.length 16 hp23 (by simp only [hp21, hp22, hp49, hp50]; exact tagL_le _ _) hs (by first | assumption | omega | (simp only [List.length_append, List.length_cons, List.length_nil, List.length_set, List.length_replicate, List.length_take, List.length_drop]; omega) | (simp only [fits] at *; omega) | (simp only [List.length_append, List.length_cons, List.length_nil, List.length_set, List.length_replicate, List.length_take, List.length_drop] at *; omega) | (simp; done) | decide) (by first | rfl | assumption | omega | (simp only [List.length_append, List.length_cons, List.length_nil, List.length_set, List.length_replicate, List.length_take, List.length_drop]; omega) | (simp; done)) (by first | rfl | assumption | omega | (simp only [List.length_append, List.length_cons, List.length_nil, List.length_set, List.length_replicate, List.length_take, List.length_drop]; omega) | (simp; done))) [] (by kernel_rfl) (((Lend.nil _).tells 2 (blk b2 50 (nums .u8 ss)) (some ⟨b2, 0, none⟩) (nums .u8 ss) (by kernel_rfl) (tells_blk _ _ 0 _ _ (by simp))).tells 4 (row 5 1 (.slice A217 zs19.length c218) zs19.length (nums .u8 zs19)) A217 (nums .u8 zs19) (by kernel_rfl) (tells_row _ _ _ _ _ _)) ?_)
      rintro _ _ ⟨rfl, rfl⟩
      refine RunR.sil hU [] 2 12 [3, 6, 11, 76] [(3, .pointer (some ⟨b2, 0, none⟩)), (6, .bool false), (11, .slice A245 zs47.length c246), (76, .bool (decide (zs19 = ss)))] ((True) ∧ (True) ∧ True) rfl (by kernel_rfl) ⟨trivial, trivial, trivial⟩ ?_
      refine RunR.env [3, 6, 11, 76] [(3, .pointer (some ⟨b2, 0, none⟩)), (6, .bool false), (11, .slice A245 zs47.length c246), (76, .bool (decide (zs19 = ss)))] (by kernel_rfl) ?_
      have hk56 : (zs19 = ss) := by simp only [hp21, hp22, hp49, hp50]; first | exact plain_a hr hs hrl hsl | exact plain_b hi_fs hs hl_fs hsl hzc
      refine RunR.enveq [(3, .pointer (some ⟨b2, 0, none⟩)), (6, .bool false), (11, .slice A245 zs47.length c246), (76, .bool true)] (by rw [decide_eq_true hk56]; try rfl) ?_
      refine RunR.sil hU [] 2 14 [6, 76, 77, 78] [(6, .bool false), (76, .bool true), (77, .slice A245 zs47.length c246), (78, .slice (some ⟨b2, 0, none⟩) 16 16)] ((True) ∧ (True) ∧ True) rfl (by kernel_rfl) ⟨trivial, trivial, trivial⟩ ?_
      refine RunR.step (dst := some 79) (op := .call { callee := .value (.func 17), args := #[.tmp 77, .tmp 78], argTypes := #[22, 22] }) (by kernel_rfl) (Step.call 17 [.slice A245 zs47.length c246, .slice (some ⟨b2, 0, none⟩) 16 16] (by kernel_rfl) (by kernel_rfl) [] [vw A245 (nums .u8 zs47), vw (some ⟨b2, 0, none⟩) (nums .u8 ss)] [row 5 1 (.slice A245 zs47.length c246) zs47.length (nums .u8 zs47), row 5 1 (.slice Aq40 ((fs ++ ss).length) cq41) ((fs ++ ss).length) (nums .u8 (fs ++ ss)), blk b2 50 (nums .u8 ss), blk b3 50 (nums .u8 rs), row 5 1 (.slice A217 zs19.length c218) zs19.length (nums .u8 zs19), vw none (nums .u8 ([] : List Int)), row 5 1 (.slice Aq12 ((rs ++ ss).length) cq13) ((rs ++ ss).length) (nums .u8 (rs ++ ss)), vw M (nums .u8 ys)] (r_Equal_spec A245 c246 zs47 (some ⟨b2, 0, none⟩) 16 ss zs47.length 16 hp51 (by simp only [hp21, hp22, hp49, hp50]; exact tagL_le _ _) hs (by first | assumption | omega | (simp only [List.length_append, List.length_cons, List.length_nil, List.length_set, List.length_replicate, List.length_take, List.length_drop]; omega) | (simp only [fits] at *; omega) | (simp only [List.length_append, List.length_cons, List.length_nil, List.length_set, List.length_replicate, List.length_take, List.length_drop] at *; omega) | (simp; done) | decide) (by first | rfl | assumption | omega | (simp only [List.length_append, List.length_cons, List.length_nil, List.length_set, List.length_replicate, List.length_take, List.length_drop]; omega) | (simp; done)) (by first | rfl | assumption | omega | (simp only [List.length_append, List.length_cons, List.length_nil, List.length_set, List.length_replicate, List.length_take, List.length_drop]; omega) | (simp; done))) [] (by kernel_rfl) (((Lend.nil _).tells 2 (blk b2 50 (nums .u8 ss)) (some ⟨b2, 0, none⟩) (nums .u8 ss) (by kernel_rfl) (tells_blk _ _ 0 _ _ (by simp))).tells 0 (row 5 1 (.slice A245 zs47.length c246) zs47.length (nums .u8 zs47)) A245 (nums .u8 zs47) (by kernel_rfl) (tells_row _ _ _ _ _ _)) ?_)
      rintro _ _ ⟨rfl, rfl⟩
      refine RunR.sil hU [] 2 17 [6] [(6, .bool (decide (zs47 = ss)))] ((True) ∧ (True) ∧ True) rfl (by kernel_rfl) ⟨trivial, trivial, trivial⟩ ?_
      refine RunR.env [6] [(6, .bool (decide (zs47 = ss)))] (by kernel_rfl) ?_
      have hk57 : (zs47 = ss) := by simp only [hp21, hp22, hp49, hp50]; first | exact plain_a hr hs hrl hsl | exact plain_b hi_fs hs hl_fs hsl hzc
      refine RunR.enveq [(6, .bool true)] (by rw [decide_eq_true hk57]; try rfl) ?_
      refine RunR.done (by kernel_rfl) ?_
      refine kseq_n ?_
      refine RunC.ret ?_
      refine kret_r [.bool true] [] [] ⟨rfl, trivial⟩ (by kernel_rfl) rfl ⟨rfl, rfl⟩
end Go.Proofs.Ytoaoabnhkiijpaa.LPolyPlain
