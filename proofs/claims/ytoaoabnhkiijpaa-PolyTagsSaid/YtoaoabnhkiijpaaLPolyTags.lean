/- The law PolyTags returns true whatever it is handed: its walk, on the contracts of what it calls. -/
import Derived.Test.YtoaoabnhkiijpaaRPure
import Derived.Test.YtoaoabnhkiijpaaProg
import Derived.Test.YtoaoabnhkiijpaaX1
import Derived.Test.YtoaoabnhkiijpaaX2
import Derived.Test.YtoaoabnhkiijpaaX3
import Derived.Test.YtoaoabnhkiijpaaX4
import Derived.Test.YtoaoabnhkiijpaaX5
import Derived.Test.YtoaoabnhkiijpaaX6
import Derived.Test.YtoaoabnhkiijpaaX7
import Derived.Test.YtoaoabnhkiijpaaX8
import Derived.Test.YtoaoabnhkiijpaaX9
import Derived.Test.YtoaoabnhkiijpaaY1
namespace Go.Proofs.Ytoaoabnhkiijpaa.LPolyTags
open Go Go.Proofs.Ytoaoabnhkiijpaa.SL Go.Proofs.Ytoaoabnhkiijpaa.SL.W Go.Proofs.Ytoaoabnhkiijpaa.SL.Y Go.Proofs.Ytoaoabnhkiijpaa.X1 Go.Proofs.Ytoaoabnhkiijpaa.X2 Go.Proofs.Ytoaoabnhkiijpaa.X3 Go.Proofs.Ytoaoabnhkiijpaa.X4 Go.Proofs.Ytoaoabnhkiijpaa.X5 Go.Proofs.Ytoaoabnhkiijpaa.X6 Go.Proofs.Ytoaoabnhkiijpaa.X7 Go.Proofs.Ytoaoabnhkiijpaa.X8 Go.Proofs.Ytoaoabnhkiijpaa.X9 Go.Proofs.Ytoaoabnhkiijpaa.Y1
set_option linter.unusedVariables false
set_option linter.unusedSimpArgs false
set_option maxRecDepth 100000
set_option maxHeartbeats 40000000
def U : Tab where
  und := [(3, .int .i64), (5, .int .u8), (22, .slice 5), (25, .int .i64)]
  fld := []
  sz := [(3, 1), (5, 1), (22, 1), (25, 1)]
  ti := [(3, (1, 8, .int .i64 0)), (5, (1, 1, .int .u8 0)), (22, (1, 24, .slice none 0 0)), (25, (1, 8, .int .i64 0))]
  bld := []

theorem hU : U.OK Try.prog where
  und := by
    intro p hp
    simp only [U, List.mem_cons, List.not_mem_nil, or_false] at hp
    rcases hp with rfl | rfl | rfl | rfl
    · exact Try.underlying3
    · exact Try.underlying5
    · exact Try.underlying22
    · exact Try.underlying25
  fld := by
    intro p hp; cases hp
  sz := by
    intro p hp
    simp only [U, List.mem_cons, List.not_mem_nil, or_false] at hp
    rcases hp with rfl | rfl | rfl | rfl
    · exact ⟨Try.prog.types[3]!, by kernel_rfl, by kernel_rfl⟩
    · exact ⟨Try.prog.types[5]!, by kernel_rfl, by kernel_rfl⟩
    · exact ⟨Try.prog.types[22]!, by kernel_rfl, by kernel_rfl⟩
    · exact ⟨Try.prog.types[25]!, by kernel_rfl, by kernel_rfl⟩
  ti := by
    intro p hp
    simp only [U, List.mem_cons, List.not_mem_nil, or_false] at hp
    rcases hp with rfl | rfl | rfl | rfl
    · exact ⟨Try.prog.types[3]!, by kernel_rfl, by kernel_rfl, by kernel_rfl, by kernel_rfl⟩
    · exact ⟨Try.prog.types[5]!, by kernel_rfl, by kernel_rfl, by kernel_rfl, by kernel_rfl⟩
    · exact ⟨Try.prog.types[22]!, by kernel_rfl, by kernel_rfl, by kernel_rfl, by kernel_rfl⟩
    · exact ⟨Try.prog.types[25]!, by kernel_rfl, by kernel_rfl, by kernel_rfl, by kernel_rfl⟩
  bld := by
    intro p hp; cases hp
  mixed := by kernel_rfl

theorem l5_PolyTags_spec (A : Option Addr) (c : Nat) (xs : List Int) (M : Option Addr) (d : Nat) (ys : List Int) (l_xs : Nat) (l_ys : Nat) (hx : In .u8 xs) (hn : xs.length ≤ 140737488351232) (hy : In .u8 ys) (hm : ys.length ≤ 140737488351232) (hlc : xs.length ≤ c) (hld : ys.length ≤ d) (hl_xs : xs.length = l_xs) (hl_ys : ys.length = l_ys) :
    CallsS Try.prog 11 [.slice A l_xs c, .slice M l_ys d] [vw A (nums .u8 xs), vw M (nums .u8 ys)] (fun r D => r = .bool true ∧ D = []) := by
  subst hl_xs
  subst hl_ys
  refine CallsS.enter hU Try.f11 _ [.tmp 4] 43 Try.func11 rfl (by decide) rfl rfl (by kernel_rfl) fun w0 W => ?_
  refine RunC.know (p := 0 < xs.length → Option.isSome A = true) (fun _ _ w hs => vw_some hs 0 rfl (by simp [nums_length])) (fun hA1 => ?_)
  refine RunC.know (p := 0 < ys.length → Option.isSome M = true) (fun _ _ w hs => vw_some hs 1 rfl (by simp [nums_length])) (fun hA2 => ?_)
  refine RunC.seq ?_
  refine RunC.region ?_
  refine RunR.sil hU [] 1 1 [0, 1, 4] [(0, .slice A xs.length c), (1, .slice M ys.length d), (4, .bool false)] ((True) ∧ True) rfl (by kernel_rfl) ⟨trivial, trivial⟩ ?_
  refine RunR.done (by kernel_rfl) ?_
  refine kseq_n ?_
  refine RunC.seq ?_
  refine RunC.seq ?_
  refine RunC.region ?_
  refine RunR.step (dst := some 10) (op := .call { callee := .value (.func 27), args := #[], argTypes := #[] }) (by kernel_rfl) (Step.call 27 [] (by kernel_rfl) (by kernel_rfl) [] [] [vw A (nums .u8 xs), vw M (nums .u8 ys)] (l5_awake_spec) [] (by kernel_rfl) (Lend.nil _) ?_)
  rintro _ _ ⟨rfl, rfl⟩
  refine RunR.sil hU [] 1 2 [0, 1, 4, 11] [(0, .slice A xs.length c), (1, .slice M ys.length d), (4, .bool false), (11, .bool false)] ((True) ∧ True) rfl (by kernel_rfl) ⟨trivial, trivial⟩ ?_
  refine RunR.done (by kernel_rfl) ?_
  refine kseq_n ?_
  refine RunC.cond (b := false) (by kernel_rfl) (fun h => by cases h) (fun _ => ?_)
  refine RunC.skip ?_
  refine kseq_n ?_
  refine RunC.seq ?_
  refine RunC.seq ?_
  refine RunC.region ?_
  refine RunR.sil hU [] 3 3 [0, 1, 4, 14] [(0, .slice A xs.length c), (1, .slice M ys.length d), (4, .bool false), (14, .bool (decide (((ys.length : Nat) : Int) > 2048)))] ((True) ∧ (True) ∧ (True) ∧ True) rfl (by kernel_rfl) ⟨trivial, trivial, trivial, trivial⟩ ?_
  refine RunR.done (by kernel_rfl) ?_
  refine kseq_n ?_
  refine RunC.condp (((ys.length : Nat) : Int) > 2048) (by kernel_rfl) (fun h3 => ?_) (fun h3 => ?_)
  · skip
    refine RunC.seq ?_
    refine RunC.region ?_
    refine RunR.sil hU [] 1 1 [0, 1, 4] [(0, .slice A xs.length c), (1, .slice M ys.length d), (4, .bool true)] ((True) ∧ True) rfl (by kernel_rfl) ⟨trivial, trivial⟩ ?_
    refine RunR.done (by kernel_rfl) ?_
    refine kseq_n ?_
    refine RunC.ret ?_
    refine kseq_r ?_
    refine kret_r [.bool true] [] [] ⟨rfl, trivial⟩ (by kernel_rfl) rfl ⟨rfl, rfl⟩
  · skip
    refine RunC.skip ?_
    refine kseq_n ?_
    refine RunC.seq ?_
    refine RunC.region ?_
    refine RunR.step (dst := some 15) (op := .buildSlice 22 0 #[]) (by kernel_rfl) (Step.lit_nums hU 5 1 .u8 (.int .u8 0) ([] : List Int) rfl rfl (by kernel_rfl) rfl rfl (by kernel_rfl) (fun b4 => ?_))
    have hl5 : (([] : List Int)).length = 0 := rfl
    refine RunR.sil hU [] 1 2 [0, 1, 4, 15, 16] [(0, .slice A xs.length c), (1, .slice M ys.length d), (4, .bool false), (15, .slice (some ⟨b4, 0, none⟩) 0 0), (16, .slice M ys.length d)] ((True) ∧ True) rfl (by kernel_rfl) ⟨trivial, trivial⟩ ?_
    have hl10 : (([] : List Int)).length = 0 := rfl
    refine RunR.step (dst := some 17) (op := .call { callee := .builtin .append, args := #[.tmp 15, .tmp 16], argTypes := #[22, 22] }) (by kernel_rfl) (Step.append_nums hU 5 1 (.int .u8 0) .u8 0 2 (some ⟨b4, 0, none⟩) 0 0 ([] : List Int) M ys.length d (vw M (nums .u8 ys)) ys rfl rfl rfl (by kernel_rfl) (by kernel_rfl) (by kernel_rfl) (by kernel_rfl) (tells_vw _ _) (by first | rfl | omega | (simp; omega)) (by first | rfl | omega | (simp; omega)) (by omega) (by omega) (by kernel_rfl) (fun Aq6 cq7 hc8 hA9 => ?_))
    simp only [List.nil_append] at hc8 hA9
    refine RunR.sil hU [] 1 4 [0, 1, 4, 5] [(0, .slice A xs.length c), (1, .slice M ys.length d), (4, .bool false), (5, .slice Aq6 ys.length cq7)] ((True) ∧ True) rfl (by kernel_rfl) ⟨trivial, trivial⟩ ?_
    refine RunR.done (by kernel_rfl) ?_
    refine kseq_n ?_
    refine RunC.seq ?_
    refine RunC.region ?_
    refine RunR.sil hU [] 2 2 [0, 1, 4, 5, 19, 20] [(0, .slice A xs.length c), (1, .slice M ys.length d), (4, .bool false), (5, .slice Aq6 ys.length cq7), (19, .slice A xs.length c), (20, .slice Aq6 ys.length cq7)] ((True) ∧ (True) ∧ True) rfl (by kernel_rfl) ⟨trivial, trivial, trivial⟩ ?_
    refine RunR.step (dst := some 21) (op := .call { callee := .value (.func 28), args := #[.tmp 19, .tmp 20], argTypes := #[22, 22] }) (by kernel_rfl) (Step.call 28 [.slice A xs.length c, .slice Aq6 ys.length cq7] (by kernel_rfl) (by kernel_rfl) [] [vw A (nums .u8 xs), vw Aq6 (nums .u8 ys)] [row 5 1 (.slice Aq6 ys.length cq7) ys.length (nums .u8 ys), vw A (nums .u8 xs), vw M (nums .u8 ys)] (y_Tag_spec A c xs Aq6 cq7 ys xs.length ys.length hx (by first | assumption | omega | (simp only [List.length_append, List.length_cons, List.length_nil, List.length_set, List.length_replicate, List.length_take, List.length_drop]; omega) | (simp only [fits] at *; omega) | (simp only [List.length_append, List.length_cons, List.length_nil, List.length_set, List.length_replicate, List.length_take, List.length_drop] at *; omega) | (simp; done) | decide) hy (by first | assumption | omega | (simp only [List.length_append, List.length_cons, List.length_nil, List.length_set, List.length_replicate, List.length_take, List.length_drop]; omega) | (simp only [fits] at *; omega) | (simp only [List.length_append, List.length_cons, List.length_nil, List.length_set, List.length_replicate, List.length_take, List.length_drop] at *; omega) | (simp; done) | decide) (by first | assumption | omega | (simp only [List.length_append, List.length_cons, List.length_nil, List.length_set, List.length_replicate, List.length_take, List.length_drop]; omega) | (simp only [fits] at *; omega) | (simp only [List.length_append, List.length_cons, List.length_nil, List.length_set, List.length_replicate, List.length_take, List.length_drop] at *; omega) | (simp; done) | decide) (by first | assumption | omega | (simp only [List.length_append, List.length_cons, List.length_nil, List.length_set, List.length_replicate, List.length_take, List.length_drop]; omega) | (simp only [fits] at *; omega) | (simp only [List.length_append, List.length_cons, List.length_nil, List.length_set, List.length_replicate, List.length_take, List.length_drop] at *; omega) | (simp; done) | decide) (by first | rfl | assumption | omega | (simp only [List.length_append, List.length_cons, List.length_nil, List.length_set, List.length_replicate, List.length_take, List.length_drop]; omega) | (simp; done)) (by first | rfl | assumption | omega | (simp only [List.length_append, List.length_cons, List.length_nil, List.length_set, List.length_replicate, List.length_take, List.length_drop]; omega) | (simp; done))) [] (by kernel_rfl) (((Lend.nil _).tells 0 (row 5 1 (.slice Aq6 ys.length cq7) ys.length (nums .u8 ys)) Aq6 (nums .u8 ys) (by kernel_rfl) (tells_row _ _ _ _ _ _)).tells 1 (vw A (nums .u8 xs)) A (nums .u8 xs) (by kernel_rfl) (tells_vw _ _)) ?_)
    rintro _ _ ⟨A211, c212, zs13, e14, rfl, rfl, hp15, hp16, hp17, hp18, hp19⟩
    refine RunR.sil hU [] 5 8 [0, 1, 4, 5, 6, 7] [(0, .slice A xs.length c), (1, .slice M ys.length d), (4, .bool false), (5, .slice Aq6 ys.length cq7), (6, .slice A211 zs13.length c212), (7, .int .i64 e14)] ((True) ∧ (True) ∧ (True) ∧ (True) ∧ (True) ∧ True) rfl (by kernel_rfl) ⟨trivial, trivial, trivial, trivial, trivial, trivial⟩ ?_
    refine RunR.done (by kernel_rfl) ?_
    refine kseq_n ?_
    refine RunC.seq ?_
    refine RunC.region ?_
    refine RunR.sil hU [] 2 2 [1, 4, 5, 6, 7, 25, 26] [(1, .slice M ys.length d), (4, .bool false), (5, .slice Aq6 ys.length cq7), (6, .slice A211 zs13.length c212), (7, .int .i64 e14), (25, .slice A xs.length c), (26, .slice M ys.length d)] ((True) ∧ (True) ∧ True) rfl (by kernel_rfl) ⟨trivial, trivial, trivial⟩ ?_
    refine RunR.step (dst := some 27) (op := .call { callee := .value (.func 29), args := #[.tmp 25, .tmp 26], argTypes := #[22, 22] }) (by kernel_rfl) (Step.call 29 [.slice A xs.length c, .slice M ys.length d] (by kernel_rfl) (by kernel_rfl) [] [vw A (nums .u8 xs), vw M (nums .u8 ys)] [row 5 1 (.slice A211 zs13.length c212) zs13.length (nums .u8 zs13), row 5 1 (.slice Aq6 ys.length cq7) ys.length (nums .u8 ys), vw A (nums .u8 xs), vw M (nums .u8 ys)] (r_Tag_spec A c xs M d ys xs.length ys.length hx (by first | assumption | omega | (simp only [List.length_append, List.length_cons, List.length_nil, List.length_set, List.length_replicate, List.length_take, List.length_drop]; omega) | (simp only [fits] at *; omega) | (simp only [List.length_append, List.length_cons, List.length_nil, List.length_set, List.length_replicate, List.length_take, List.length_drop] at *; omega) | (simp; done) | decide) hy (by first | assumption | omega | (simp only [List.length_append, List.length_cons, List.length_nil, List.length_set, List.length_replicate, List.length_take, List.length_drop]; omega) | (simp only [fits] at *; omega) | (simp only [List.length_append, List.length_cons, List.length_nil, List.length_set, List.length_replicate, List.length_take, List.length_drop] at *; omega) | (simp; done) | decide) (by first | assumption | omega | (simp only [List.length_append, List.length_cons, List.length_nil, List.length_set, List.length_replicate, List.length_take, List.length_drop]; omega) | (simp only [fits] at *; omega) | (simp only [List.length_append, List.length_cons, List.length_nil, List.length_set, List.length_replicate, List.length_take, List.length_drop] at *; omega) | (simp; done) | decide) (by first | assumption | omega | (simp only [List.length_append, List.length_cons, List.length_nil, List.length_set, List.length_replicate, List.length_take, List.length_drop]; omega) | (simp only [fits] at *; omega) | (simp only [List.length_append, List.length_cons, List.length_nil, List.length_set, List.length_replicate, List.length_take, List.length_drop] at *; omega) | (simp; done) | decide) (by first | rfl | assumption | omega | (simp only [List.length_append, List.length_cons, List.length_nil, List.length_set, List.length_replicate, List.length_take, List.length_drop]; omega) | (simp; done)) (by first | rfl | assumption | omega | (simp only [List.length_append, List.length_cons, List.length_nil, List.length_set, List.length_replicate, List.length_take, List.length_drop]; omega) | (simp; done))) [] (by kernel_rfl) (((Lend.nil _).tells 3 (vw M (nums .u8 ys)) M (nums .u8 ys) (by kernel_rfl) (tells_vw _ _)).tells 2 (vw A (nums .u8 xs)) A (nums .u8 xs) (by kernel_rfl) (tells_vw _ _)) ?_)
    rintro _ _ ⟨A220, c221, zs22, e23, rfl, rfl, hp24, hp25, hp26, hp27, hp28⟩
    refine RunR.sil hU [] 5 8 [1, 4, 5, 6, 7, 8, 9] [(1, .slice M ys.length d), (4, .bool false), (5, .slice Aq6 ys.length cq7), (6, .slice A211 zs13.length c212), (7, .int .i64 e14), (8, .slice A220 zs22.length c221), (9, .int .i64 e23)] ((True) ∧ (True) ∧ (True) ∧ (True) ∧ (True) ∧ True) rfl (by kernel_rfl) ⟨trivial, trivial, trivial, trivial, trivial, trivial⟩ ?_
    refine RunR.done (by kernel_rfl) ?_
    refine kseq_n ?_
    refine RunC.seq ?_
    refine RunC.region ?_
    refine RunR.sil hU [] 4 4 [1, 4, 5, 6, 8, 33] [(1, .slice M ys.length d), (4, .bool false), (5, .slice Aq6 ys.length cq7), (6, .slice A211 zs13.length c212), (8, .slice A220 zs22.length c221), (33, .bool (decide (e14 = e23)))] ((True) ∧ (True) ∧ (True) ∧ (True) ∧ True) rfl (by kernel_rfl) ⟨trivial, trivial, trivial, trivial, trivial⟩ ?_
    refine RunR.env [1, 4, 5, 6, 8, 33] [(1, .slice M ys.length d), (4, .bool false), (5, .slice Aq6 ys.length cq7), (6, .slice A211 zs13.length c212), (8, .slice A220 zs22.length c221), (33, .bool (decide (e14 = e23)))] (by kernel_rfl) ?_
    have hk29 : (e14 = e23) := by simp only [hp15, hp16, hp24, hp25]
    refine RunR.enveq [(1, .slice M ys.length d), (4, .bool false), (5, .slice Aq6 ys.length cq7), (6, .slice A211 zs13.length c212), (8, .slice A220 zs22.length c221), (33, .bool true)] (by rw [decide_eq_true hk29]; try rfl) ?_
    refine RunR.sil hU [] 2 6 [1, 4, 5, 33, 34, 35] [(1, .slice M ys.length d), (4, .bool false), (5, .slice Aq6 ys.length cq7), (33, .bool true), (34, .slice A211 zs13.length c212), (35, .slice A220 zs22.length c221)] ((True) ∧ (True) ∧ True) rfl (by kernel_rfl) ⟨trivial, trivial, trivial⟩ ?_
    refine RunR.step (dst := some 36) (op := .call { callee := .value (.func 17), args := #[.tmp 34, .tmp 35], argTypes := #[22, 22] }) (by kernel_rfl) (Step.call 17 [.slice A211 zs13.length c212, .slice A220 zs22.length c221] (by kernel_rfl) (by kernel_rfl) [] [vw A211 (nums .u8 zs13), vw A220 (nums .u8 zs22)] [row 5 1 (.slice A220 zs22.length c221) zs22.length (nums .u8 zs22), row 5 1 (.slice A211 zs13.length c212) zs13.length (nums .u8 zs13), row 5 1 (.slice Aq6 ys.length cq7) ys.length (nums .u8 ys), vw A (nums .u8 xs), vw M (nums .u8 ys)] (r_Equal_spec A211 c212 zs13 A220 c221 zs22 zs13.length zs22.length hp17 (by simp only [hp15, hp16, hp24, hp25]; exact tagL_le _ _) hp26 (by simp only [hp15, hp16, hp24, hp25]; exact tagL_le _ _) (by first | rfl | assumption | omega | (simp only [List.length_append, List.length_cons, List.length_nil, List.length_set, List.length_replicate, List.length_take, List.length_drop]; omega) | (simp; done)) (by first | rfl | assumption | omega | (simp only [List.length_append, List.length_cons, List.length_nil, List.length_set, List.length_replicate, List.length_take, List.length_drop]; omega) | (simp; done))) [] (by kernel_rfl) (((Lend.nil _).tells 0 (row 5 1 (.slice A220 zs22.length c221) zs22.length (nums .u8 zs22)) A220 (nums .u8 zs22) (by kernel_rfl) (tells_row _ _ _ _ _ _)).tells 1 (row 5 1 (.slice A211 zs13.length c212) zs13.length (nums .u8 zs13)) A211 (nums .u8 zs13) (by kernel_rfl) (tells_row _ _ _ _ _ _)) ?_)
    rintro _ _ ⟨rfl, rfl⟩
    refine RunR.sil hU [] 2 9 [1, 4, 5, 38] [(1, .slice M ys.length d), (4, .bool false), (5, .slice Aq6 ys.length cq7), (38, .bool (decide (zs13 = zs22)))] ((True) ∧ (True) ∧ True) rfl (by kernel_rfl) ⟨trivial, trivial, trivial⟩ ?_
    refine RunR.env [1, 4, 5, 38] [(1, .slice M ys.length d), (4, .bool false), (5, .slice Aq6 ys.length cq7), (38, .bool (decide (zs13 = zs22)))] (by kernel_rfl) ?_
    have hk30 : (zs13 = zs22) := by simp only [hp15, hp16, hp24, hp25]
    refine RunR.enveq [(1, .slice M ys.length d), (4, .bool false), (5, .slice Aq6 ys.length cq7), (38, .bool true)] (by rw [decide_eq_true hk30]; try rfl) ?_
    refine RunR.sil hU [] 2 11 [4, 38, 39, 40] [(4, .bool false), (38, .bool true), (39, .slice Aq6 ys.length cq7), (40, .slice M ys.length d)] ((True) ∧ (True) ∧ True) rfl (by kernel_rfl) ⟨trivial, trivial, trivial⟩ ?_
    refine RunR.step (dst := some 41) (op := .call { callee := .value (.func 17), args := #[.tmp 39, .tmp 40], argTypes := #[22, 22] }) (by kernel_rfl) (Step.call 17 [.slice Aq6 ys.length cq7, .slice M ys.length d] (by kernel_rfl) (by kernel_rfl) [] [vw Aq6 (nums .u8 ys), vw M (nums .u8 ys)] [row 5 1 (.slice A220 zs22.length c221) zs22.length (nums .u8 zs22), row 5 1 (.slice A211 zs13.length c212) zs13.length (nums .u8 zs13), row 5 1 (.slice Aq6 ys.length cq7) ys.length (nums .u8 ys), vw A (nums .u8 xs), vw M (nums .u8 ys)] (r_Equal_spec Aq6 cq7 ys M d ys ys.length ys.length hy (by first | assumption | omega | (simp only [List.length_append, List.length_cons, List.length_nil, List.length_set, List.length_replicate, List.length_take, List.length_drop]; omega) | (simp only [fits] at *; omega) | (simp only [List.length_append, List.length_cons, List.length_nil, List.length_set, List.length_replicate, List.length_take, List.length_drop] at *; omega) | (simp; done) | decide) hy (by first | assumption | omega | (simp only [List.length_append, List.length_cons, List.length_nil, List.length_set, List.length_replicate, List.length_take, List.length_drop]; omega) | (simp only [fits] at *; omega) | (simp only [List.length_append, List.length_cons, List.length_nil, List.length_set, List.length_replicate, List.length_take, List.length_drop] at *; omega) | (simp; done) | decide) (by first | rfl | assumption | omega | (simp only [List.length_append, List.length_cons, List.length_nil, List.length_set, List.length_replicate, List.length_take, List.length_drop]; omega) | (simp; done)) (by first | rfl | assumption | omega | (simp only [List.length_append, List.length_cons, List.length_nil, List.length_set, List.length_replicate, List.length_take, List.length_drop]; omega) | (simp; done))) [] (by kernel_rfl) (((Lend.nil _).tells 4 (vw M (nums .u8 ys)) M (nums .u8 ys) (by kernel_rfl) (tells_vw _ _)).tells 2 (row 5 1 (.slice Aq6 ys.length cq7) ys.length (nums .u8 ys)) Aq6 (nums .u8 ys) (by kernel_rfl) (tells_row _ _ _ _ _ _)) ?_)
    rintro _ _ ⟨rfl, rfl⟩
    refine RunR.sil hU [] 2 14 [4] [(4, .bool (decide (ys = ys)))] ((True) ∧ (True) ∧ True) rfl (by kernel_rfl) ⟨trivial, trivial, trivial⟩ ?_
    refine RunR.env [4] [(4, .bool (decide (ys = ys)))] (by kernel_rfl) ?_
    have hk31 : (ys = ys) := by rfl
    refine RunR.enveq [(4, .bool true)] (by rw [decide_eq_true hk31]; try rfl) ?_
    refine RunR.done (by kernel_rfl) ?_
    refine kseq_n ?_
    refine RunC.ret ?_
    refine kret_r [.bool true] [] [] ⟨rfl, trivial⟩ (by kernel_rfl) rfl ⟨rfl, rfl⟩
end Go.Proofs.Ytoaoabnhkiijpaa.LPolyTags
