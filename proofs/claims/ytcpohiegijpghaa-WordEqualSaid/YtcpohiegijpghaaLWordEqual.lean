/- The law WordEqual returns true whatever it is handed: its walk, on the contracts of what it calls. -/
import Derived.Test.YtcpohiegijpghaaW1
namespace Go.Proofs.Ytcpohiegijpghaa.LWordEqual
open Go Go.Proofs.Ytcpohiegijpghaa.SL Go.Proofs.Ytcpohiegijpghaa.SL.W Go.Proofs.Ytcpohiegijpghaa.W1
set_option linter.unusedVariables false
set_option linter.unusedSimpArgs false
set_option maxRecDepth 100000
set_option maxHeartbeats 4000000
def U : Tab where
  und := [(3, .int .i64), (4, .bool), (5, .int .u8), (22, .slice 5), (35, .int .u16), (36, .array 2 35)]
  fld := []
  sz := [(3, 1), (4, 1), (5, 1), (22, 1), (35, 1), (36, 2)]
  ti := [(3, (1, 8, .int .i64 0)), (4, (1, 1, .bool false)), (5, (1, 1, .int .u8 0)), (22, (1, 24, .slice none 0 0)), (35, (1, 2, .int .u16 0)), (36, (2, 4, .agg #[.int .u16 0, .int .u16 0]))]

theorem hU : U.OK Try.prog where
  und := by
    intro p hp
    simp only [U, List.mem_cons, List.not_mem_nil, or_false] at hp
    rcases hp with rfl | rfl | rfl | rfl | rfl | rfl
    · exact Try.underlying3
    · exact Try.underlying4
    · exact Try.underlying5
    · exact Try.underlying22
    · exact Try.underlying35
    · exact Try.underlying36
  fld := by
    intro p hp; cases hp
  sz := by
    intro p hp
    simp only [U, List.mem_cons, List.not_mem_nil, or_false] at hp
    rcases hp with rfl | rfl | rfl | rfl | rfl | rfl
    · exact ⟨Try.prog.types[3]!, by kernel_rfl, by kernel_rfl⟩
    · exact ⟨Try.prog.types[4]!, by kernel_rfl, by kernel_rfl⟩
    · exact ⟨Try.prog.types[5]!, by kernel_rfl, by kernel_rfl⟩
    · exact ⟨Try.prog.types[22]!, by kernel_rfl, by kernel_rfl⟩
    · exact ⟨Try.prog.types[35]!, by kernel_rfl, by kernel_rfl⟩
    · exact ⟨Try.prog.types[36]!, by kernel_rfl, by kernel_rfl⟩
  ti := by
    intro p hp
    simp only [U, List.mem_cons, List.not_mem_nil, or_false] at hp
    rcases hp with rfl | rfl | rfl | rfl | rfl | rfl
    · exact ⟨Try.prog.types[3]!, by kernel_rfl, by kernel_rfl, by kernel_rfl, by kernel_rfl⟩
    · exact ⟨Try.prog.types[4]!, by kernel_rfl, by kernel_rfl, by kernel_rfl, by kernel_rfl⟩
    · exact ⟨Try.prog.types[5]!, by kernel_rfl, by kernel_rfl, by kernel_rfl, by kernel_rfl⟩
    · exact ⟨Try.prog.types[22]!, by kernel_rfl, by kernel_rfl, by kernel_rfl, by kernel_rfl⟩
    · exact ⟨Try.prog.types[35]!, by kernel_rfl, by kernel_rfl, by kernel_rfl, by kernel_rfl⟩
    · exact ⟨Try.prog.types[36]!, by kernel_rfl, by kernel_rfl, by kernel_rfl, by kernel_rfl⟩
  mixed := by kernel_rfl

theorem l1_WordEqual_spec (A : Option Addr) (c : Nat) (xs : List Int) (A2 : Option Addr) (c2 : Nat) (ys : List Int) (a : Int) (b : Int) (l_xs : Nat) (l_ys : Nat) (hx : In .u8 xs) (hn : xs.length ≤ 140737488351232) (hy : In .u8 ys) (hm : ys.length ≤ 140737488351232) (ha : fits .u16 a) (hb : fits .u16 b) (hl_xs : xs.length = l_xs) (hl_ys : ys.length = l_ys) :
    CallsS Try.prog 5 [.slice A l_xs c, .slice A2 l_ys c2, .agg #[.int .u16 a, .int .u16 b]] [vw A (nums .u8 xs), vw A2 (nums .u8 ys)] (fun r D => r = .bool true ∧ D = []) := by
  subst hl_xs
  subst hl_ys
  refine CallsS.enter hU Try.f5 _ [.tmp 6] 78 Try.func5 rfl (by decide) rfl rfl (by kernel_rfl) fun w0 W => ?_
  have ha2 := ha; have hb2 := hb; simp only [fits] at ha2 hb2
  refine RunC.know (p := 0 < xs.length → Option.isSome A = true) (fun w hs => vw_some hs 0 rfl (by simp [nums_length])) (fun hA1 => ?_)
  refine RunC.know (p := 0 < ys.length → Option.isSome A2 = true) (fun w hs => vw_some hs 1 rfl (by simp [nums_length])) (fun hA2 => ?_)
  refine RunC.seq ?_
  refine RunC.region ?_
  refine RunR.step (dst := some 5) (op := .box 36 (.tmp 2)) (by kernel_rfl) (Step.box (.agg #[.int .u16 a, .int .u16 b]) (by kernel_rfl) (by kernel_rfl) (fun b3 => ?_))
  refine RunR.sil hU [] 1 2 [0, 1, 5, 6] [(0, .slice A xs.length c), (1, .slice A2 ys.length c2), (5, .pointer (some ⟨b3, 0, none⟩)), (6, .bool false)] ((True) ∧ True) rfl (by kernel_rfl) ⟨trivial, trivial⟩ ?_
  refine RunR.done (by kernel_rfl) ?_
  refine kseq_n ?_
  refine RunC.seq ?_
  refine RunC.seq ?_
  refine RunC.region ?_
  refine RunR.step (dst := some 9) (op := .call { callee := .value (.func 13), args := #[], argTypes := #[] }) (by kernel_rfl) (Step.call 13 [] (by kernel_rfl) (by kernel_rfl) [] [] [blk b3 36 [.int .u16 a, .int .u16 b], vw A (nums .u8 xs), vw A2 (nums .u8 ys)] (l1_awake_spec) [] (by kernel_rfl) (Lend.nil _) ?_)
  rintro _ _ ⟨rfl, rfl⟩
  refine RunR.sil hU [] 1 2 [0, 1, 5, 6, 10] [(0, .slice A xs.length c), (1, .slice A2 ys.length c2), (5, .pointer (some ⟨b3, 0, none⟩)), (6, .bool false), (10, .bool false)] ((True) ∧ True) rfl (by kernel_rfl) ⟨trivial, trivial⟩ ?_
  refine RunR.done (by kernel_rfl) ?_
  refine kseq_n ?_
  refine RunC.cond (b := false) (by kernel_rfl) (fun h => by cases h) (fun _ => ?_)
  refine RunC.skip ?_
  refine kseq_n ?_
  refine RunC.seq ?_
  refine RunC.seq ?_
  refine RunC.region ?_
  refine RunR.sil hU [] 4 4 [0, 1, 5, 6, 14] [(0, .slice A xs.length c), (1, .slice A2 ys.length c2), (5, .pointer (some ⟨b3, 0, none⟩)), (6, .bool false), (14, .bool (decide (((xs.length : Nat) : Int) > 4096)))] ((True) ∧ (True) ∧ (True) ∧ (True) ∧ True) rfl (by kernel_rfl) ⟨trivial, trivial, trivial, trivial, trivial⟩ ?_
  refine RunR.env [0, 1, 5, 6, 14] [(0, .slice A xs.length c), (1, .slice A2 ys.length c2), (5, .pointer (some ⟨b3, 0, none⟩)), (6, .bool false), (14, .bool (decide (((xs.length : Nat) : Int) > 4096)))] (by kernel_rfl) ?_
  by_cases h4 : ((xs.length : Nat) : Int) > 4096
  · skip
    refine RunR.enveq [(0, .slice A xs.length c), (1, .slice A2 ys.length c2), (5, .pointer (some ⟨b3, 0, none⟩)), (6, .bool false), (14, .bool true)] (by rw [decide_eq_true h4]; try rfl) ?_
    refine RunR.sil hU [] 4 8 [0, 1, 5, 6, 18] [(0, .slice A xs.length c), (1, .slice A2 ys.length c2), (5, .pointer (some ⟨b3, 0, none⟩)), (6, .bool false), (18, .bool true)] ((True) ∧ True) rfl (by kernel_rfl) ⟨trivial, trivial⟩ ?_
    refine RunR.done (by kernel_rfl) ?_
    refine kseq_n ?_
    refine RunC.cond (b := true) (by kernel_rfl) (fun _ => ?_) (fun h => by cases h)
    refine RunC.seq ?_
    refine RunC.region ?_
    refine RunR.sil hU [] 1 1 [0, 1, 5, 6] [(0, .slice A xs.length c), (1, .slice A2 ys.length c2), (5, .pointer (some ⟨b3, 0, none⟩)), (6, .bool true)] ((True) ∧ True) rfl (by kernel_rfl) ⟨trivial, trivial⟩ ?_
    refine RunR.done (by kernel_rfl) ?_
    refine kseq_n ?_
    refine RunC.ret ?_
    refine kseq_r ?_
    refine kret_r [.bool true] [] [] ⟨rfl, trivial⟩ (by kernel_rfl) rfl ⟨rfl, rfl⟩
  · skip
    refine RunR.enveq [(0, .slice A xs.length c), (1, .slice A2 ys.length c2), (5, .pointer (some ⟨b3, 0, none⟩)), (6, .bool false), (14, .bool false)] (by rw [decide_eq_false h4]; try rfl) ?_
    refine RunR.sil hU [] 4 8 [0, 1, 5, 6, 18] [(0, .slice A xs.length c), (1, .slice A2 ys.length c2), (5, .pointer (some ⟨b3, 0, none⟩)), (6, .bool false), (18, .bool (decide (((ys.length : Nat) : Int) > 4096)))] ((True) ∧ (True) ∧ (True) ∧ (True) ∧ True) rfl (by kernel_rfl) ⟨trivial, trivial, trivial, trivial, trivial⟩ ?_
    refine RunR.done (by kernel_rfl) ?_
    refine kseq_n ?_
    refine RunC.condp (((ys.length : Nat) : Int) > 4096) (by kernel_rfl) (fun h5 => ?_) (fun h5 => ?_)
    · skip
      refine RunC.seq ?_
      refine RunC.region ?_
      refine RunR.sil hU [] 1 1 [0, 1, 5, 6] [(0, .slice A xs.length c), (1, .slice A2 ys.length c2), (5, .pointer (some ⟨b3, 0, none⟩)), (6, .bool true)] ((True) ∧ True) rfl (by kernel_rfl) ⟨trivial, trivial⟩ ?_
      refine RunR.done (by kernel_rfl) ?_
      refine kseq_n ?_
      refine RunC.ret ?_
      refine kseq_r ?_
      refine kret_r [.bool true] [] [] ⟨rfl, trivial⟩ (by kernel_rfl) rfl ⟨rfl, rfl⟩
    · skip
      refine RunC.skip ?_
      refine kseq_n ?_
      refine RunC.seq ?_
      refine RunC.region ?_
      refine RunR.step (dst := some 19) (op := .buildSlice 22 0 #[]) (by kernel_rfl) (Step.lit_nums hU 5 1 .u8 (.int .u8 0) ([] : List Int) rfl rfl (by kernel_rfl) rfl rfl (by kernel_rfl) (fun b6 => ?_))
      refine RunR.sil hU [] 1 2 [0, 1, 5, 6, 19, 20] [(0, .slice A xs.length c), (1, .slice A2 ys.length c2), (5, .pointer (some ⟨b3, 0, none⟩)), (6, .bool false), (19, .slice (some ⟨b6, 0, none⟩) 0 0), (20, .slice A xs.length c)] ((True) ∧ True) rfl (by kernel_rfl) ⟨trivial, trivial⟩ ?_
      have hl11 : (([] : List Int)).length = 0 := rfl
      refine RunR.step (dst := some 21) (op := .call { callee := .builtin .append, args := #[.tmp 19, .tmp 20], argTypes := #[22, 22] }) (by kernel_rfl) (Step.append_nums hU 5 1 (.int .u8 0) .u8 0 2 (some ⟨b6, 0, none⟩) 0 0 ([] : List Int) A xs.length c (vw A (nums .u8 xs)) xs rfl rfl rfl (by kernel_rfl) (by kernel_rfl) (by kernel_rfl) (by kernel_rfl) (tells_vw _ _) (by first | rfl | omega | (simp; omega)) (by first | rfl | omega | (simp; omega)) (by omega) (by omega) (by kernel_rfl) (fun A7 c8 hc9 hA10 => ?_))
      simp only [List.nil_append] at hc9 hA10
      refine RunR.sil hU [] 1 4 [0, 1, 5, 6, 7] [(0, .slice A xs.length c), (1, .slice A2 ys.length c2), (5, .pointer (some ⟨b3, 0, none⟩)), (6, .bool false), (7, .slice A7 xs.length c8)] ((True) ∧ True) rfl (by kernel_rfl) ⟨trivial, trivial⟩ ?_
      refine RunR.done (by kernel_rfl) ?_
      refine kseq_n ?_
      refine RunC.seq ?_
      refine RunC.seq ?_
      refine RunC.region ?_
      refine RunR.sil hU [] 2 2 [0, 1, 5, 6, 7, 22, 23] [(0, .slice A xs.length c), (1, .slice A2 ys.length c2), (5, .pointer (some ⟨b3, 0, none⟩)), (6, .bool false), (7, .slice A7 xs.length c8), (22, .slice A xs.length c), (23, .slice A2 ys.length c2)] ((True) ∧ (True) ∧ True) rfl (by kernel_rfl) ⟨trivial, trivial, trivial⟩ ?_
      refine RunR.step (dst := some 24) (op := .call { callee := .value (.func 25), args := #[.tmp 22, .tmp 23], argTypes := #[22, 22] }) (by kernel_rfl) (Step.call 25 [.slice A xs.length c, .slice A2 ys.length c2] (by kernel_rfl) (by kernel_rfl) [] [vw A (nums .u8 xs), vw A2 (nums .u8 ys)] [row 5 1 (.slice A7 xs.length c8) xs.length (nums .u8 xs), blk b3 36 [.int .u16 a, .int .u16 b], vw A (nums .u8 xs), vw A2 (nums .u8 ys)] (w_Equal_spec A c xs A2 c2 ys xs.length ys.length hx (by first | assumption | omega | (simp only [List.length_append, List.length_cons, List.length_nil, List.length_set, List.length_replicate, List.length_take, List.length_drop]; omega) | (simp only [fits] at *; omega) | (simp only [List.length_append, List.length_cons, List.length_nil, List.length_set, List.length_replicate, List.length_take, List.length_drop] at *; omega) | (simp; done) | decide) hy (by first | assumption | omega | (simp only [List.length_append, List.length_cons, List.length_nil, List.length_set, List.length_replicate, List.length_take, List.length_drop]; omega) | (simp only [fits] at *; omega) | (simp only [List.length_append, List.length_cons, List.length_nil, List.length_set, List.length_replicate, List.length_take, List.length_drop] at *; omega) | (simp; done) | decide) (by first | rfl | assumption | omega | (simp only [List.length_append, List.length_cons, List.length_nil, List.length_set, List.length_replicate, List.length_take, List.length_drop]; omega) | (simp; done)) (by first | rfl | assumption | omega | (simp only [List.length_append, List.length_cons, List.length_nil, List.length_set, List.length_replicate, List.length_take, List.length_drop]; omega) | (simp; done))) [] (by kernel_rfl) (((Lend.nil _).tells 3 (vw A2 (nums .u8 ys)) A2 (nums .u8 ys) (by kernel_rfl) (tells_vw _ _)).tells 2 (vw A (nums .u8 xs)) A (nums .u8 xs) (by kernel_rfl) (tells_vw _ _)) ?_)
      rintro _ _ ⟨rfl, rfl⟩
      refine RunR.sil hU [] 2 5 [0, 5, 6, 7, 24, 25, 26] [(0, .slice A xs.length c), (5, .pointer (some ⟨b3, 0, none⟩)), (6, .bool false), (7, .slice A7 xs.length c8), (24, .bool (decide (xs = ys))), (25, .slice A xs.length c), (26, .slice A2 ys.length c2)] ((True) ∧ (True) ∧ True) rfl (by kernel_rfl) ⟨trivial, trivial, trivial⟩ ?_
      refine RunR.step (dst := some 27) (op := .call { callee := .value (.func 18), args := #[.tmp 25, .tmp 26], argTypes := #[22, 22] }) (by kernel_rfl) (Step.call 18 [.slice A xs.length c, .slice A2 ys.length c2] (by kernel_rfl) (by kernel_rfl) [] [vw A (nums .u8 xs), vw A2 (nums .u8 ys)] [row 5 1 (.slice A7 xs.length c8) xs.length (nums .u8 xs), blk b3 36 [.int .u16 a, .int .u16 b], vw A (nums .u8 xs), vw A2 (nums .u8 ys)] (r_Equal_spec A c xs A2 c2 ys xs.length ys.length hx (by first | assumption | omega | (simp only [List.length_append, List.length_cons, List.length_nil, List.length_set, List.length_replicate, List.length_take, List.length_drop]; omega) | (simp only [fits] at *; omega) | (simp only [List.length_append, List.length_cons, List.length_nil, List.length_set, List.length_replicate, List.length_take, List.length_drop] at *; omega) | (simp; done) | decide) hy (by first | assumption | omega | (simp only [List.length_append, List.length_cons, List.length_nil, List.length_set, List.length_replicate, List.length_take, List.length_drop]; omega) | (simp only [fits] at *; omega) | (simp only [List.length_append, List.length_cons, List.length_nil, List.length_set, List.length_replicate, List.length_take, List.length_drop] at *; omega) | (simp; done) | decide) (by first | rfl | assumption | omega | (simp only [List.length_append, List.length_cons, List.length_nil, List.length_set, List.length_replicate, List.length_take, List.length_drop]; omega) | (simp; done)) (by first | rfl | assumption | omega | (simp only [List.length_append, List.length_cons, List.length_nil, List.length_set, List.length_replicate, List.length_take, List.length_drop]; omega) | (simp; done))) [] (by kernel_rfl) (((Lend.nil _).tells 3 (vw A2 (nums .u8 ys)) A2 (nums .u8 ys) (by kernel_rfl) (tells_vw _ _)).tells 2 (vw A (nums .u8 xs)) A (nums .u8 xs) (by kernel_rfl) (tells_vw _ _)) ?_)
      rintro _ _ ⟨rfl, rfl⟩
      refine RunR.sil hU [] 2 8 [0, 5, 6, 7, 29] [(0, .slice A xs.length c), (5, .pointer (some ⟨b3, 0, none⟩)), (6, .bool false), (7, .slice A7 xs.length c8), (29, .bool (!(decide (xs = ys) == decide (xs = ys))))] ((True) ∧ (True) ∧ True) rfl (by kernel_rfl) ⟨trivial, trivial, trivial⟩ ?_
      refine RunR.env [0, 5, 6, 7, 29] [(0, .slice A xs.length c), (5, .pointer (some ⟨b3, 0, none⟩)), (6, .bool false), (7, .slice A7 xs.length c8), (29, .bool (!(decide (xs = ys) == decide (xs = ys))))] (by kernel_rfl) ?_
      have hk12 : (decide (xs = ys) == decide (xs = ys)) = true := by exact beq_self_eq_true _
      refine RunR.enveq [(0, .slice A xs.length c), (5, .pointer (some ⟨b3, 0, none⟩)), (6, .bool false), (7, .slice A7 xs.length c8), (29, .bool false)] (by rw [hk12]; try rfl) ?_
      refine RunR.sil hU [] 2 10 [0, 5, 6, 7, 29, 30, 31] [(0, .slice A xs.length c), (5, .pointer (some ⟨b3, 0, none⟩)), (6, .bool false), (7, .slice A7 xs.length c8), (29, .bool false), (30, .slice A xs.length c), (31, .slice A7 xs.length c8)] ((True) ∧ (True) ∧ True) rfl (by kernel_rfl) ⟨trivial, trivial, trivial⟩ ?_
      refine RunR.step (dst := some 32) (op := .call { callee := .value (.func 25), args := #[.tmp 30, .tmp 31], argTypes := #[22, 22] }) (by kernel_rfl) (Step.call 25 [.slice A xs.length c, .slice A7 xs.length c8] (by kernel_rfl) (by kernel_rfl) [] [vw A (nums .u8 xs), vw A7 (nums .u8 xs)] [row 5 1 (.slice A7 xs.length c8) xs.length (nums .u8 xs), blk b3 36 [.int .u16 a, .int .u16 b], vw A (nums .u8 xs), vw A2 (nums .u8 ys)] (w_Equal_spec A c xs A7 c8 xs xs.length xs.length hx (by first | assumption | omega | (simp only [List.length_append, List.length_cons, List.length_nil, List.length_set, List.length_replicate, List.length_take, List.length_drop]; omega) | (simp only [fits] at *; omega) | (simp only [List.length_append, List.length_cons, List.length_nil, List.length_set, List.length_replicate, List.length_take, List.length_drop] at *; omega) | (simp; done) | decide) hx (by first | assumption | omega | (simp only [List.length_append, List.length_cons, List.length_nil, List.length_set, List.length_replicate, List.length_take, List.length_drop]; omega) | (simp only [fits] at *; omega) | (simp only [List.length_append, List.length_cons, List.length_nil, List.length_set, List.length_replicate, List.length_take, List.length_drop] at *; omega) | (simp; done) | decide) (by first | rfl | assumption | omega | (simp only [List.length_append, List.length_cons, List.length_nil, List.length_set, List.length_replicate, List.length_take, List.length_drop]; omega) | (simp; done)) (by first | rfl | assumption | omega | (simp only [List.length_append, List.length_cons, List.length_nil, List.length_set, List.length_replicate, List.length_take, List.length_drop]; omega) | (simp; done))) [] (by kernel_rfl) (((Lend.nil _).tells 0 (row 5 1 (.slice A7 xs.length c8) xs.length (nums .u8 xs)) A7 (nums .u8 xs) (by kernel_rfl) (tells_row _ _ _ _ _ _)).tells 2 (vw A (nums .u8 xs)) A (nums .u8 xs) (by kernel_rfl) (tells_vw _ _)) ?_)
      rintro _ _ ⟨rfl, rfl⟩
      refine RunR.sil hU [] 3 14 [0, 5, 6, 7, 35] [(0, .slice A xs.length c), (5, .pointer (some ⟨b3, 0, none⟩)), (6, .bool false), (7, .slice A7 xs.length c8), (35, .bool (!decide (xs = xs)))] ((True) ∧ (True) ∧ (True) ∧ True) rfl (by kernel_rfl) ⟨trivial, trivial, trivial, trivial⟩ ?_
      refine RunR.env [0, 5, 6, 7, 35] [(0, .slice A xs.length c), (5, .pointer (some ⟨b3, 0, none⟩)), (6, .bool false), (7, .slice A7 xs.length c8), (35, .bool (!decide (xs = xs)))] (by kernel_rfl) ?_
      have hk13 : (xs = xs) := by rfl
      refine RunR.enveq [(0, .slice A xs.length c), (5, .pointer (some ⟨b3, 0, none⟩)), (6, .bool false), (7, .slice A7 xs.length c8), (35, .bool false)] (by rw [decide_eq_true hk13]; try rfl) ?_
      refine RunR.sil hU [] 2 16 [0, 5, 6, 7, 35, 36, 37] [(0, .slice A xs.length c), (5, .pointer (some ⟨b3, 0, none⟩)), (6, .bool false), (7, .slice A7 xs.length c8), (35, .bool false), (36, .slice A xs.length c), (37, .slice A7 xs.length c8)] ((True) ∧ (True) ∧ True) rfl (by kernel_rfl) ⟨trivial, trivial, trivial⟩ ?_
      refine RunR.step (dst := some 38) (op := .buildSlice 22 1 #[(0, .const (.int .u8 0))]) (by kernel_rfl) (Step.lit_nums hU 5 1 .u8 (.int .u8 0) ([0] : List Int) rfl rfl (by kernel_rfl) rfl rfl (by kernel_rfl) (fun b14 => ?_))
      have hl19 : (([0] : List Int)).length = 1 := rfl
      refine RunR.step (dst := some 39) (op := .call { callee := .builtin .append, args := #[.tmp 37, .tmp 38], argTypes := #[22, 22] }) (by kernel_rfl) (Step.append_keep hU 5 1 (.int .u8 0) .u8 1 0 A7 xs.length c8 xs (some ⟨b14, 0, none⟩) 1 1 (row 5 1 (.slice (some ⟨b14, 0, none⟩) 1 1) 1 (nums .u8 ([0] : List Int))) ([0] : List Int) rfl rfl rfl (by kernel_rfl) (by kernel_rfl) (by kernel_rfl) (by kernel_rfl) (tells_row _ _ _ _ _ _) (by first | rfl | omega | (simp; omega)) (by first | rfl | omega | (simp; omega)) (by omega) (by omega) (by kernel_rfl) (fun A15 c16 hc17 hA18 => ?_))
      have hl20 : (xs ++ ([0] : List Int)).length = xs.length + ([0] : List Int).length := List.length_append
      simp only [List.length_cons, List.length_nil] at hl20
      refine RunR.step (dst := some 40) (op := .call { callee := .value (.func 25), args := #[.tmp 36, .tmp 39], argTypes := #[22, 22] }) (by kernel_rfl) (Step.call 25 [.slice A xs.length c, .slice A15 ((xs ++ ([0] : List Int)).length) c16] (by kernel_rfl) (by kernel_rfl) [] [vw A (nums .u8 xs), vw A15 (nums .u8 (xs ++ ([0] : List Int)))] [pair (row 5 1 (.slice A7 xs.length c8) xs.length (nums .u8 xs)) (row 5 1 (.slice A15 ((xs ++ ([0] : List Int)).length) c16) ((xs ++ ([0] : List Int)).length) (nums .u8 (xs ++ ([0] : List Int)))), row 5 1 (.slice (some ⟨b14, 0, none⟩) 1 1) 1 (nums .u8 ([0] : List Int)), blk b3 36 [.int .u16 a, .int .u16 b], vw A (nums .u8 xs), vw A2 (nums .u8 ys)] (w_Equal_spec A c xs A15 c16 (xs ++ ([0] : List Int)) xs.length ((xs ++ ([0] : List Int)).length) hx (by first | assumption | omega | (simp only [List.length_append, List.length_cons, List.length_nil, List.length_set, List.length_replicate, List.length_take, List.length_drop]; omega) | (simp only [fits] at *; omega) | (simp only [List.length_append, List.length_cons, List.length_nil, List.length_set, List.length_replicate, List.length_take, List.length_drop] at *; omega) | (simp; done) | decide) (by (repeat first | assumption | (simp only [fits]; omega) | with_reducible first | exact fits_wrap _ _ | exact fits_bits2 _ _ _ _ | exact In.nil _ | exact In.sb _ | exact In.replicate _ _ | apply In.append | apply In.cons | apply In.set | apply In.take | apply In.drop | apply In.rev)) (by first | assumption | omega | (simp only [List.length_append, List.length_cons, List.length_nil, List.length_set, List.length_replicate, List.length_take, List.length_drop]; omega) | (simp only [fits] at *; omega) | (simp only [List.length_append, List.length_cons, List.length_nil, List.length_set, List.length_replicate, List.length_take, List.length_drop] at *; omega) | (simp; done) | decide) (by first | rfl | assumption | omega | (simp only [List.length_append, List.length_cons, List.length_nil, List.length_set, List.length_replicate, List.length_take, List.length_drop]; omega) | (simp; done)) (by first | rfl | assumption | omega | (simp only [List.length_append, List.length_cons, List.length_nil, List.length_set, List.length_replicate, List.length_take, List.length_drop]; omega) | (simp; done))) [] (by kernel_rfl) (((Lend.nil _).tells 0 (pair (row 5 1 (.slice A7 xs.length c8) xs.length (nums .u8 xs)) (row 5 1 (.slice A15 ((xs ++ ([0] : List Int)).length) c16) ((xs ++ ([0] : List Int)).length) (nums .u8 (xs ++ ([0] : List Int))))) A15 (nums .u8 (xs ++ ([0] : List Int))) (by kernel_rfl) (tells_pairR (tells_row _ _ _ _ _ _))).tells 3 (vw A (nums .u8 xs)) A (nums .u8 xs) (by kernel_rfl) (tells_vw _ _)) ?_)
      rintro _ _ ⟨rfl, rfl⟩
      refine RunR.sil hU [] 1 20 [0, 5, 6, 7, 41] [(0, .slice A xs.length c), (5, .pointer (some ⟨b3, 0, none⟩)), (6, .bool false), (7, .slice A7 xs.length c8), (41, .bool (decide (xs = (xs ++ ([0] : List Int)))))] ((True) ∧ True) rfl (by kernel_rfl) ⟨trivial, trivial⟩ ?_
      refine RunR.env [0, 5, 6, 7, 41] [(0, .slice A xs.length c), (5, .pointer (some ⟨b3, 0, none⟩)), (6, .bool false), (7, .slice A7 xs.length c8), (41, .bool (decide (xs = (xs ++ ([0] : List Int)))))] (by kernel_rfl) ?_
      have hk21 : ¬ (xs = (xs ++ ([0] : List Int))) := by intro h; have := congrArg List.length h; simp at this
      refine RunR.enveq [(0, .slice A xs.length c), (5, .pointer (some ⟨b3, 0, none⟩)), (6, .bool false), (7, .slice A7 xs.length c8), (41, .bool false)] (by rw [decide_eq_false hk21]; try rfl) ?_
      refine RunR.turn ([row 5 1 (.slice A7 xs.length c8) xs.length (nums .u8 xs), row 5 1 (.slice (some ⟨b14, 0, none⟩) 1 1) 1 (nums .u8 ([0] : List Int)), blk b3 36 [.int .u16 a, .int .u16 b], vw A (nums .u8 xs), vw A2 (nums .u8 ys)]) (fun w hs => hs.dropR 0 rfl rfl) ?_
      refine RunR.done (by kernel_rfl) ?_
      refine kseq_n ?_
      refine RunC.cond (b := false) (by kernel_rfl) (fun h => by cases h) (fun _ => ?_)
      refine RunC.skip ?_
      refine kseq_n ?_
      refine RunC.seq ?_
      refine RunC.seq ?_
      refine RunC.region ?_
      refine RunR.sil hU [] 4 4 [0, 5, 6, 7, 45] [(0, .slice A xs.length c), (5, .pointer (some ⟨b3, 0, none⟩)), (6, .bool false), (7, .slice A7 xs.length c8), (45, .bool (decide (((xs.length : Nat) : Int) > 0)))] ((True) ∧ (True) ∧ (True) ∧ (True) ∧ True) rfl (by kernel_rfl) ⟨trivial, trivial, trivial, trivial, trivial⟩ ?_
      refine RunR.env [0, 5, 6, 7, 45] [(0, .slice A xs.length c), (5, .pointer (some ⟨b3, 0, none⟩)), (6, .bool false), (7, .slice A7 xs.length c8), (45, .bool (decide (((xs.length : Nat) : Int) > 0)))] (by kernel_rfl) ?_
      by_cases h22 : ((xs.length : Nat) : Int) > 0
      · skip
        refine RunR.enveq [(0, .slice A xs.length c), (5, .pointer (some ⟨b3, 0, none⟩)), (6, .bool false), (7, .slice A7 xs.length c8), (45, .bool true)] (by rw [decide_eq_true h22]; try rfl) ?_
        refine RunR.sil hU [] 1 5 [0, 5, 6, 7, 45, 46] [(0, .slice A xs.length c), (5, .pointer (some ⟨b3, 0, none⟩)), (6, .bool false), (7, .slice A7 xs.length c8), (45, .bool true), (46, .pointer (some ⟨b3, 0, none⟩))] ((0 ≤ (0 : Int) ∧ (0 : Int) < ((2 : Nat) : Int)) ∧ True) rfl (by kernel_rfl) ⟨(by omega), trivial⟩ ?_
        refine RunR.step (dst := some 47) (op := .load 35 (.tmp 46)) (by kernel_rfl) (Step.load_blk hU 2 b3 (0) 36 [.int .u16 a, .int .u16 b] (.int .u16 a) (by kernel_rfl) (by kernel_rfl) (by kernel_rfl) (by kernel_rfl) ?_)
        refine RunR.sil hU [] 3 9 [0, 5, 6, 7, 50] [(0, .slice A xs.length c), (5, .pointer (some ⟨b3, 0, none⟩)), (6, .bool false), (7, .slice A7 xs.length c8), (50, .bool (!decide ((IntKind.wrap .u8 a) = 0)))] ((True) ∧ (True) ∧ (True) ∧ True) rfl (by kernel_rfl) ⟨trivial, trivial, trivial, trivial⟩ ?_
        refine RunR.done (by kernel_rfl) ?_
        refine kseq_n ?_
        refine RunC.condn ((IntKind.wrap .u8 a) = 0) (by kernel_rfl) (fun h23 => ?_) (fun h23 => ?_)
        · skip
          refine RunC.seq ?_
          refine RunC.region ?_
          refine RunR.sil hU [] 1 1 [0, 5, 6, 7, 51] [(0, .slice A xs.length c), (5, .pointer (some ⟨b3, 0, none⟩)), (6, .bool false), (7, .slice A7 xs.length c8), (51, .pointer (some ⟨b3, 1, none⟩))] ((0 ≤ (1 : Int) ∧ (1 : Int) < ((2 : Nat) : Int)) ∧ True) rfl (by kernel_rfl) ⟨(by omega), trivial⟩ ?_
          refine RunR.step (dst := some 52) (op := .load 35 (.tmp 51)) (by kernel_rfl) (Step.load_blk hU 2 b3 (1) 36 [.int .u16 a, .int .u16 b] (.int .u16 b) (by kernel_rfl) (by kernel_rfl) (by kernel_rfl) (by kernel_rfl) ?_)
          have hm24 : 0 ≤ b % ((xs.length : Nat) : Int) ∧ b % ((xs.length : Nat) : Int) < ((xs.length : Nat) : Int) := ⟨Int.emod_nonneg _ (by omega), Int.emod_lt_of_pos _ (by omega)⟩
          refine RunR.sil hU [2, 5] 5 7 [0, 5, 6, 7, 8] [(0, .slice A xs.length c), (5, .pointer (some ⟨b3, 0, none⟩)), (6, .bool false), (7, .slice A7 xs.length c8), (8, .int .i64 (b % ((xs.length : Nat) : Int)))] ((-9223372036854775808 ≤ b ∧ b < 9223372036854775808) ∧ (True) ∧ (True) ∧ (0 ≤ b ∧ 0 < ((xs.length : Nat) : Int)) ∧ (True) ∧ True) rfl (by kernel_rfl) ⟨(by omega), trivial, trivial, (by omega), trivial, trivial⟩ ?_
          refine RunR.done (by kernel_rfl) ?_
          refine kseq_n ?_
          refine RunC.seq ?_
          refine RunC.regionU hU 12 [row 5 1 (.slice A7 xs.length c8) xs.length (nums .u8 xs), blk b3 36 [.int .u16 a, .int .u16 b]] [0, 2] [10, 11] #[false, false, false, false, false, false, false, false, false, false, false, false] (by kernel_rfl) (by kernel_rfl) (by kernel_rfl) ?_
          refine RunU.sil hU false 0 #[true, false, false, false, false, false, false, false, false, false, false, false] 57 (.slice A7 xs.length c8) (True) (by kernel_rfl) trivial (by kernel_rfl) (by kernel_rfl) (fun _ _ _ h => h) ?_
          refine RunU.sil hU false 1 #[true, true, false, false, false, false, false, false, false, false, false, false] 58 (.int .i64 (b % ((xs.length : Nat) : Int))) (True) (by kernel_rfl) trivial (by kernel_rfl) (by kernel_rfl) (fun _ _ _ h => h) ?_
          refine RunU.sil hU false 2 #[true, true, true, false, false, false, false, false, false, false, false, false] 59 (.slice A7 xs.length c8) (True) (by kernel_rfl) trivial (by kernel_rfl) (by kernel_rfl) (fun _ _ _ h => h) ?_
          refine RunU.sil hU false 3 #[true, true, true, true, false, false, false, false, false, false, false, false] 60 (.int .i64 (b % ((xs.length : Nat) : Int))) (True) (by kernel_rfl) trivial (by kernel_rfl) (by kernel_rfl) (fun _ _ _ h => h) ?_
          refine RunU.sil hU false 4 #[true, true, true, true, true, false, false, false, false, false, false, false] 61 (.pointer (elemAt A7 (b % ((xs.length : Nat) : Int)) 1)) ((0 ≤ (b % ((xs.length : Nat) : Int)) ∧ (b % ((xs.length : Nat) : Int)) < ((xs.length : Nat) : Int)) ∧ Option.isSome A7 = true) (by kernel_rfl) ⟨by omega, hA10 (by omega)⟩ (by kernel_rfl) (by kernel_rfl) (fun _ _ _ h => h) ?_
          refine RunU.read 5 #[true, true, true, true, true, true, false, false, false, false, false, false] 62 (.load 5 (.tmp 61)) (.int .u8 (xs.getD (b % ((xs.length : Nat) : Int)).toNat 0)) [0, 2] (by kernel_rfl) (Reads.load_num hU 0 (row 5 1 (.slice A7 xs.length c8) xs.length (nums .u8 xs)) A7 (b % ((xs.length : Nat) : Int)) .u8 xs rfl (by kernel_rfl) (by kernel_rfl) (tells_row _ _ _ _ _ _) (by omega)) (by kernel_rfl) (by kernel_rfl) (by kernel_rfl) (by kernel_rfl) (fun _ _ _ h => h) ?_
          have hb25 : 0 ≤ xs.getD ((b % ((xs.length : Nat) : Int)).toNat) 0 ∧ xs.getD ((b % ((xs.length : Nat) : Int)).toNat) 0 < 256 := hx.at_ _
          refine RunU.sil hU false 6 #[true, true, true, true, true, true, true, false, false, false, false, false] 63 (.pointer (some ⟨b3, 0, none⟩)) (0 ≤ (0 : Int) ∧ (0 : Int) < ((2 : Nat) : Int)) (by kernel_rfl) (by omega) (by kernel_rfl) (by kernel_rfl) (fun _ _ _ h => h) ?_
          refine RunU.read 7 #[true, true, true, true, true, true, true, true, false, false, false, false] 64 (.load 35 (.tmp 63)) (.int .u16 a) [0, 2] (by kernel_rfl) (Reads.load_blk hU 1 b3 (0) 36 [.int .u16 a, .int .u16 b] (.int .u16 a) (by kernel_rfl) (by kernel_rfl) (by kernel_rfl)) (by kernel_rfl) (by kernel_rfl) (by kernel_rfl) (by kernel_rfl) (fun _ _ _ h => h) ?_
          refine RunU.sil hU false 8 #[true, true, true, true, true, true, true, true, true, false, false, false] 65 (.int .u8 (IntKind.wrap .u8 a)) (True) (by kernel_rfl) trivial (by kernel_rfl) (by kernel_rfl) (fun _ _ _ h => h) ?_
          refine RunU.sil hU false 9 #[true, true, true, true, true, true, true, true, true, true, false, false] 66 (.int .u8 (bits2 .xor .u8 (xs.getD (b % ((xs.length : Nat) : Int)).toNat 0) (IntKind.wrap .u8 a))) (True) (by kernel_rfl) trivial (by kernel_rfl) (by kernel_rfl) (fun _ _ _ h => h) ?_
          refine RunU.sil hU false 10 #[true, true, true, true, true, true, true, true, true, true, true, false] 67 (.pointer (elemAt A7 (b % ((xs.length : Nat) : Int)) 1)) ((0 ≤ (b % ((xs.length : Nat) : Int)) ∧ (b % ((xs.length : Nat) : Int)) < ((xs.length : Nat) : Int)) ∧ Option.isSome A7 = true) (by kernel_rfl) ⟨by omega, hA10 (by omega)⟩ (by kernel_rfl) (by kernel_rfl) (fun _ _ _ h => h) ?_
          refine RunU.one (dst := none) (op := .store 5 (.tmp 67) (.tmp 66)) 11 #[true, true, true, true, true, true, true, true, true, true, true, true] [] (by kernel_rfl) (by kernel_rfl) (Step.store_num hU 0 5 xs.length c8 A7 .u8 xs (b % ((xs.length : Nat) : Int)) (bits2 .xor .u8 (xs.getD (b % ((xs.length : Nat) : Int)).toNat 0) (IntKind.wrap .u8 a)) (by kernel_rfl) (by kernel_rfl) (by kernel_rfl) rfl (by omega) ?_)
          have hl26 : (xs.set (b % ((xs.length : Nat) : Int)).toNat (bits2 .xor .u8 (xs.getD (b % ((xs.length : Nat) : Int)).toNat 0) (IntKind.wrap .u8 a))).length = xs.length := List.length_set
          refine ⟨.inr (by kernel_rfl), ?_⟩
          refine RunU.env [0, 6, 7] [(0, .slice A xs.length c), (6, .bool false), (7, .slice A7 xs.length c8)] (by kernel_rfl) ?_
          refine RunU.done (by kernel_rfl) ?_
          refine kseq_n ?_
          refine RunC.seq ?_
          refine RunC.region ?_
          refine RunR.sil hU [] 2 2 [0, 6, 7, 68, 69] [(0, .slice A xs.length c), (6, .bool false), (7, .slice A7 xs.length c8), (68, .slice A xs.length c), (69, .slice A7 xs.length c8)] ((True) ∧ (True) ∧ True) rfl (by kernel_rfl) ⟨trivial, trivial, trivial⟩ ?_
          refine RunR.step (dst := some 70) (op := .call { callee := .value (.func 25), args := #[.tmp 68, .tmp 69], argTypes := #[22, 22] }) (by kernel_rfl) (Step.call 25 [.slice A xs.length c, .slice A7 xs.length c8] (by kernel_rfl) (by kernel_rfl) [] [vw A (nums .u8 xs), vw A7 (nums .u8 (xs.set (b % ((xs.length : Nat) : Int)).toNat (bits2 .xor .u8 (xs.getD (b % ((xs.length : Nat) : Int)).toNat 0) (IntKind.wrap .u8 a))))] [row 5 1 (.slice A7 xs.length c8) xs.length (nums .u8 (xs.set (b % ((xs.length : Nat) : Int)).toNat (bits2 .xor .u8 (xs.getD (b % ((xs.length : Nat) : Int)).toNat 0) (IntKind.wrap .u8 a)))), row 5 1 (.slice (some ⟨b14, 0, none⟩) 1 1) 1 (nums .u8 ([0] : List Int)), blk b3 36 [.int .u16 a, .int .u16 b], vw A (nums .u8 xs), vw A2 (nums .u8 ys)] (w_Equal_spec A c xs A7 c8 (xs.set (b % ((xs.length : Nat) : Int)).toNat (bits2 .xor .u8 (xs.getD (b % ((xs.length : Nat) : Int)).toNat 0) (IntKind.wrap .u8 a))) xs.length xs.length hx (by first | assumption | omega | (simp only [List.length_append, List.length_cons, List.length_nil, List.length_set, List.length_replicate, List.length_take, List.length_drop]; omega) | (simp only [fits] at *; omega) | (simp only [List.length_append, List.length_cons, List.length_nil, List.length_set, List.length_replicate, List.length_take, List.length_drop] at *; omega) | (simp; done) | decide) (by (repeat first | assumption | (simp only [fits]; omega) | with_reducible first | exact fits_wrap _ _ | exact fits_bits2 _ _ _ _ | exact In.nil _ | exact In.sb _ | exact In.replicate _ _ | apply In.append | apply In.cons | apply In.set | apply In.take | apply In.drop | apply In.rev)) (by first | assumption | omega | (simp only [List.length_append, List.length_cons, List.length_nil, List.length_set, List.length_replicate, List.length_take, List.length_drop]; omega) | (simp only [fits] at *; omega) | (simp only [List.length_append, List.length_cons, List.length_nil, List.length_set, List.length_replicate, List.length_take, List.length_drop] at *; omega) | (simp; done) | decide) (by first | rfl | assumption | omega | (simp only [List.length_append, List.length_cons, List.length_nil, List.length_set, List.length_replicate, List.length_take, List.length_drop]; omega) | (simp; done)) (by first | rfl | assumption | omega | (simp only [List.length_append, List.length_cons, List.length_nil, List.length_set, List.length_replicate, List.length_take, List.length_drop]; omega) | (simp; done))) [] (by kernel_rfl) (((Lend.nil _).tells 0 (row 5 1 (.slice A7 xs.length c8) xs.length (nums .u8 (xs.set (b % ((xs.length : Nat) : Int)).toNat (bits2 .xor .u8 (xs.getD (b % ((xs.length : Nat) : Int)).toNat 0) (IntKind.wrap .u8 a))))) A7 (nums .u8 (xs.set (b % ((xs.length : Nat) : Int)).toNat (bits2 .xor .u8 (xs.getD (b % ((xs.length : Nat) : Int)).toNat 0) (IntKind.wrap .u8 a)))) (by kernel_rfl) (tells_row _ _ _ _ _ _)).tells 3 (vw A (nums .u8 xs)) A (nums .u8 xs) (by kernel_rfl) (tells_vw _ _)) ?_)
          rintro _ _ ⟨rfl, rfl⟩
          refine RunR.done (by kernel_rfl) ?_
          refine kseq_n ?_
          refine RunC.env [0, 6, 7, 68, 69, 70] [(0, .slice A xs.length c), (6, .bool false), (7, .slice A7 xs.length c8), (68, .slice A xs.length c), (69, .slice A7 xs.length c8), (70, .bool (decide (xs = (xs.set (b % ((xs.length : Nat) : Int)).toNat (bits2 .xor .u8 (xs.getD (b % ((xs.length : Nat) : Int)).toNat 0) (IntKind.wrap .u8 a))))))] (by kernel_rfl) ?_
          have hk27 : ¬ (xs = (xs.set (b % ((xs.length : Nat) : Int)).toNat (bits2 .xor .u8 (xs.getD (b % ((xs.length : Nat) : Int)).toNat 0) (IntKind.wrap .u8 a)))) := by exact set_ne hx (by omega) (fits_wrap .u8 _) (by assumption)
          refine RunC.enveq [(0, .slice A xs.length c), (6, .bool false), (7, .slice A7 xs.length c8), (68, .slice A xs.length c), (69, .slice A7 xs.length c8), (70, .bool false)] (by rw [decide_eq_false hk27]; try rfl) ?_
          refine RunC.cond (b := false) (by kernel_rfl) (fun h => by cases h) (fun _ => ?_)
          refine RunC.skip ?_
          refine kseq_n ?_
          refine RunC.seq ?_
          refine RunC.region ?_
          refine RunR.sil hU [] 1 1 [0, 6, 7, 71] [(0, .slice A xs.length c), (6, .bool false), (7, .slice A7 xs.length c8), (71, .slice A7 xs.length c8)] ((True) ∧ True) rfl (by kernel_rfl) ⟨trivial, trivial⟩ ?_
          refine RunR.step (dst := some 72) (op := .call { callee := .value (.func 26), args := #[.tmp 71], argTypes := #[22] }) (by kernel_rfl) (Step.call 26 [.slice A7 xs.length c8] (by kernel_rfl) (by kernel_rfl) [row 5 1 (.slice A7 xs.length c8) xs.length (nums .u8 (xs.set (b % ((xs.length : Nat) : Int)).toNat (bits2 .xor .u8 (xs.getD (b % ((xs.length : Nat) : Int)).toNat 0) (IntKind.wrap .u8 a))))] [] [row 5 1 (.slice (some ⟨b14, 0, none⟩) 1 1) 1 (nums .u8 ([0] : List Int)), blk b3 36 [.int .u16 a, .int .u16 b], vw A (nums .u8 xs), vw A2 (nums .u8 ys)] (w_Wipe_spec A7 xs.length c8 (xs.set (b % ((xs.length : Nat) : Int)).toNat (bits2 .xor .u8 (xs.getD (b % ((xs.length : Nat) : Int)).toNat 0) (IntKind.wrap .u8 a)))) [0] (by kernel_rfl) (Lend.nil _) ?_)
          rintro _ _ ⟨rfl, rfl⟩
          refine RunR.done (by kernel_rfl) ?_
          refine kseq_n ?_
          refine RunC.seq ?_
          refine RunC.region ?_
          refine RunR.sil hU [] 3 3 [6, 73, 75] [(6, .bool false), (73, .slice A7 xs.length c8), (75, .int .i64 ((xs.length : Nat) : Int))] ((True) ∧ (True) ∧ (True) ∧ True) rfl (by kernel_rfl) ⟨trivial, trivial, trivial, trivial⟩ ?_
          refine RunR.step (dst := some 76) (op := .makeSlice 22 (.tmp 75) (.tmp 75)) (by kernel_rfl) (Step.make_nums hU 5 1 .u8 .i64 .i64 (((xs.length : Nat) : Int)) rfl rfl (by kernel_rfl) (by kernel_rfl) (by omega) (by omega) (by kernel_rfl) (fun b28 => ?_))
          have hl29 : (List.replicate ((((xs.length : Nat) : Int)).toNat) (0 : Int)).length = (((xs.length : Nat) : Int)).toNat := List.length_replicate
          refine RunR.step (dst := some 77) (op := .call { callee := .value (.func 18), args := #[.tmp 73, .tmp 76], argTypes := #[22, 22] }) (by kernel_rfl) (Step.call 18 [.slice A7 xs.length c8, .slice (some ⟨b28, 0, none⟩) ((((xs.length : Nat) : Int)).toNat) ((((xs.length : Nat) : Int)).toNat)] (by kernel_rfl) (by kernel_rfl) [] [vw A7 (nums .u8 (List.replicate xs.length (0 : Int))), vw (some ⟨b28, 0, none⟩) (nums .u8 (List.replicate ((((xs.length : Nat) : Int)).toNat) (0 : Int)))] [row 5 1 (.slice (some ⟨b28, 0, none⟩) ((((xs.length : Nat) : Int)).toNat) ((((xs.length : Nat) : Int)).toNat)) ((((xs.length : Nat) : Int)).toNat) (nums .u8 (List.replicate ((((xs.length : Nat) : Int)).toNat) (0 : Int))), row 5 1 (.slice A7 xs.length c8) xs.length (nums .u8 (List.replicate xs.length (0 : Int))), row 5 1 (.slice (some ⟨b14, 0, none⟩) 1 1) 1 (nums .u8 ([0] : List Int)), blk b3 36 [.int .u16 a, .int .u16 b], vw A (nums .u8 xs), vw A2 (nums .u8 ys)] (r_Equal_spec A7 c8 (List.replicate xs.length (0 : Int)) (some ⟨b28, 0, none⟩) ((((xs.length : Nat) : Int)).toNat) (List.replicate ((((xs.length : Nat) : Int)).toNat) (0 : Int)) xs.length ((((xs.length : Nat) : Int)).toNat) (by (repeat first | assumption | (simp only [fits]; omega) | with_reducible first | exact fits_wrap _ _ | exact fits_bits2 _ _ _ _ | exact In.nil _ | exact In.sb _ | exact In.replicate _ _ | apply In.append | apply In.cons | apply In.set | apply In.take | apply In.drop | apply In.rev)) (by first | assumption | omega | (simp only [List.length_append, List.length_cons, List.length_nil, List.length_set, List.length_replicate, List.length_take, List.length_drop]; omega) | (simp only [fits] at *; omega) | (simp only [List.length_append, List.length_cons, List.length_nil, List.length_set, List.length_replicate, List.length_take, List.length_drop] at *; omega) | (simp; done) | decide) (by (repeat first | assumption | (simp only [fits]; omega) | with_reducible first | exact fits_wrap _ _ | exact fits_bits2 _ _ _ _ | exact In.nil _ | exact In.sb _ | exact In.replicate _ _ | apply In.append | apply In.cons | apply In.set | apply In.take | apply In.drop | apply In.rev)) (by first | assumption | omega | (simp only [List.length_append, List.length_cons, List.length_nil, List.length_set, List.length_replicate, List.length_take, List.length_drop]; omega) | (simp only [fits] at *; omega) | (simp only [List.length_append, List.length_cons, List.length_nil, List.length_set, List.length_replicate, List.length_take, List.length_drop] at *; omega) | (simp; done) | decide) (by first | rfl | assumption | omega | (simp only [List.length_append, List.length_cons, List.length_nil, List.length_set, List.length_replicate, List.length_take, List.length_drop]; omega) | (simp; done)) (by first | rfl | assumption | omega | (simp only [List.length_append, List.length_cons, List.length_nil, List.length_set, List.length_replicate, List.length_take, List.length_drop]; omega) | (simp; done))) [] (by kernel_rfl) (((Lend.nil _).tells 0 (row 5 1 (.slice (some ⟨b28, 0, none⟩) ((((xs.length : Nat) : Int)).toNat) ((((xs.length : Nat) : Int)).toNat)) ((((xs.length : Nat) : Int)).toNat) (nums .u8 (List.replicate ((((xs.length : Nat) : Int)).toNat) (0 : Int)))) (some ⟨b28, 0, none⟩) (nums .u8 (List.replicate ((((xs.length : Nat) : Int)).toNat) (0 : Int))) (by kernel_rfl) (tells_row _ _ _ _ _ _)).tells 1 (row 5 1 (.slice A7 xs.length c8) xs.length (nums .u8 (List.replicate xs.length (0 : Int)))) A7 (nums .u8 (List.replicate xs.length (0 : Int))) (by kernel_rfl) (tells_row _ _ _ _ _ _)) ?_)
          rintro _ _ ⟨rfl, rfl⟩
          refine RunR.sil hU [] 1 6 [6] [(6, .bool (decide ((List.replicate xs.length (0 : Int)) = (List.replicate ((((xs.length : Nat) : Int)).toNat) (0 : Int)))))] ((True) ∧ True) rfl (by kernel_rfl) ⟨trivial, trivial⟩ ?_
          refine RunR.env [6] [(6, .bool (decide ((List.replicate xs.length (0 : Int)) = (List.replicate ((((xs.length : Nat) : Int)).toNat) (0 : Int)))))] (by kernel_rfl) ?_
          have hk30 : ((List.replicate xs.length (0 : Int)) = (List.replicate ((((xs.length : Nat) : Int)).toNat) (0 : Int))) := by simp
          refine RunR.enveq [(6, .bool true)] (by rw [decide_eq_true hk30]; try rfl) ?_
          refine RunR.done (by kernel_rfl) ?_
          refine kseq_n ?_
          refine RunC.ret ?_
          refine kret_r [.bool true] [] [] ⟨rfl, trivial⟩ (by kernel_rfl) rfl ⟨rfl, rfl⟩
        · skip
          refine RunC.skip ?_
          refine kseq_n ?_
          refine RunC.seq ?_
          refine RunC.region ?_
          refine RunR.sil hU [] 1 1 [0, 6, 7, 71] [(0, .slice A xs.length c), (6, .bool false), (7, .slice A7 xs.length c8), (71, .slice A7 xs.length c8)] ((True) ∧ True) rfl (by kernel_rfl) ⟨trivial, trivial⟩ ?_
          refine RunR.step (dst := some 72) (op := .call { callee := .value (.func 26), args := #[.tmp 71], argTypes := #[22] }) (by kernel_rfl) (Step.call 26 [.slice A7 xs.length c8] (by kernel_rfl) (by kernel_rfl) [row 5 1 (.slice A7 xs.length c8) xs.length (nums .u8 xs)] [] [row 5 1 (.slice (some ⟨b14, 0, none⟩) 1 1) 1 (nums .u8 ([0] : List Int)), blk b3 36 [.int .u16 a, .int .u16 b], vw A (nums .u8 xs), vw A2 (nums .u8 ys)] (w_Wipe_spec A7 xs.length c8 xs) [0] (by kernel_rfl) (Lend.nil _) ?_)
          rintro _ _ ⟨rfl, rfl⟩
          refine RunR.done (by kernel_rfl) ?_
          refine kseq_n ?_
          refine RunC.seq ?_
          refine RunC.region ?_
          refine RunR.sil hU [] 3 3 [6, 73, 75] [(6, .bool false), (73, .slice A7 xs.length c8), (75, .int .i64 ((xs.length : Nat) : Int))] ((True) ∧ (True) ∧ (True) ∧ True) rfl (by kernel_rfl) ⟨trivial, trivial, trivial, trivial⟩ ?_
          refine RunR.step (dst := some 76) (op := .makeSlice 22 (.tmp 75) (.tmp 75)) (by kernel_rfl) (Step.make_nums hU 5 1 .u8 .i64 .i64 (((xs.length : Nat) : Int)) rfl rfl (by kernel_rfl) (by kernel_rfl) (by omega) (by omega) (by kernel_rfl) (fun b31 => ?_))
          have hl32 : (List.replicate ((((xs.length : Nat) : Int)).toNat) (0 : Int)).length = (((xs.length : Nat) : Int)).toNat := List.length_replicate
          refine RunR.step (dst := some 77) (op := .call { callee := .value (.func 18), args := #[.tmp 73, .tmp 76], argTypes := #[22, 22] }) (by kernel_rfl) (Step.call 18 [.slice A7 xs.length c8, .slice (some ⟨b31, 0, none⟩) ((((xs.length : Nat) : Int)).toNat) ((((xs.length : Nat) : Int)).toNat)] (by kernel_rfl) (by kernel_rfl) [] [vw A7 (nums .u8 (List.replicate xs.length (0 : Int))), vw (some ⟨b31, 0, none⟩) (nums .u8 (List.replicate ((((xs.length : Nat) : Int)).toNat) (0 : Int)))] [row 5 1 (.slice (some ⟨b31, 0, none⟩) ((((xs.length : Nat) : Int)).toNat) ((((xs.length : Nat) : Int)).toNat)) ((((xs.length : Nat) : Int)).toNat) (nums .u8 (List.replicate ((((xs.length : Nat) : Int)).toNat) (0 : Int))), row 5 1 (.slice A7 xs.length c8) xs.length (nums .u8 (List.replicate xs.length (0 : Int))), row 5 1 (.slice (some ⟨b14, 0, none⟩) 1 1) 1 (nums .u8 ([0] : List Int)), blk b3 36 [.int .u16 a, .int .u16 b], vw A (nums .u8 xs), vw A2 (nums .u8 ys)] (r_Equal_spec A7 c8 (List.replicate xs.length (0 : Int)) (some ⟨b31, 0, none⟩) ((((xs.length : Nat) : Int)).toNat) (List.replicate ((((xs.length : Nat) : Int)).toNat) (0 : Int)) xs.length ((((xs.length : Nat) : Int)).toNat) (by (repeat first | assumption | (simp only [fits]; omega) | with_reducible first | exact fits_wrap _ _ | exact fits_bits2 _ _ _ _ | exact In.nil _ | exact In.sb _ | exact In.replicate _ _ | apply In.append | apply In.cons | apply In.set | apply In.take | apply In.drop | apply In.rev)) (by first | assumption | omega | (simp only [List.length_append, List.length_cons, List.length_nil, List.length_set, List.length_replicate, List.length_take, List.length_drop]; omega) | (simp only [fits] at *; omega) | (simp only [List.length_append, List.length_cons, List.length_nil, List.length_set, List.length_replicate, List.length_take, List.length_drop] at *; omega) | (simp; done) | decide) (by (repeat first | assumption | (simp only [fits]; omega) | with_reducible first | exact fits_wrap _ _ | exact fits_bits2 _ _ _ _ | exact In.nil _ | exact In.sb _ | exact In.replicate _ _ | apply In.append | apply In.cons | apply In.set | apply In.take | apply In.drop | apply In.rev)) (by first | assumption | omega | (simp only [List.length_append, List.length_cons, List.length_nil, List.length_set, List.length_replicate, List.length_take, List.length_drop]; omega) | (simp only [fits] at *; omega) | (simp only [List.length_append, List.length_cons, List.length_nil, List.length_set, List.length_replicate, List.length_take, List.length_drop] at *; omega) | (simp; done) | decide) (by first | rfl | assumption | omega | (simp only [List.length_append, List.length_cons, List.length_nil, List.length_set, List.length_replicate, List.length_take, List.length_drop]; omega) | (simp; done)) (by first | rfl | assumption | omega | (simp only [List.length_append, List.length_cons, List.length_nil, List.length_set, List.length_replicate, List.length_take, List.length_drop]; omega) | (simp; done))) [] (by kernel_rfl) (((Lend.nil _).tells 0 (row 5 1 (.slice (some ⟨b31, 0, none⟩) ((((xs.length : Nat) : Int)).toNat) ((((xs.length : Nat) : Int)).toNat)) ((((xs.length : Nat) : Int)).toNat) (nums .u8 (List.replicate ((((xs.length : Nat) : Int)).toNat) (0 : Int)))) (some ⟨b31, 0, none⟩) (nums .u8 (List.replicate ((((xs.length : Nat) : Int)).toNat) (0 : Int))) (by kernel_rfl) (tells_row _ _ _ _ _ _)).tells 1 (row 5 1 (.slice A7 xs.length c8) xs.length (nums .u8 (List.replicate xs.length (0 : Int)))) A7 (nums .u8 (List.replicate xs.length (0 : Int))) (by kernel_rfl) (tells_row _ _ _ _ _ _)) ?_)
          rintro _ _ ⟨rfl, rfl⟩
          refine RunR.sil hU [] 1 6 [6] [(6, .bool (decide ((List.replicate xs.length (0 : Int)) = (List.replicate ((((xs.length : Nat) : Int)).toNat) (0 : Int)))))] ((True) ∧ True) rfl (by kernel_rfl) ⟨trivial, trivial⟩ ?_
          refine RunR.env [6] [(6, .bool (decide ((List.replicate xs.length (0 : Int)) = (List.replicate ((((xs.length : Nat) : Int)).toNat) (0 : Int)))))] (by kernel_rfl) ?_
          have hk33 : ((List.replicate xs.length (0 : Int)) = (List.replicate ((((xs.length : Nat) : Int)).toNat) (0 : Int))) := by simp
          refine RunR.enveq [(6, .bool true)] (by rw [decide_eq_true hk33]; try rfl) ?_
          refine RunR.done (by kernel_rfl) ?_
          refine kseq_n ?_
          refine RunC.ret ?_
          refine kret_r [.bool true] [] [] ⟨rfl, trivial⟩ (by kernel_rfl) rfl ⟨rfl, rfl⟩
      · skip
        refine RunR.enveq [(0, .slice A xs.length c), (5, .pointer (some ⟨b3, 0, none⟩)), (6, .bool false), (7, .slice A7 xs.length c8), (45, .bool false)] (by rw [decide_eq_false h22]; try rfl) ?_
        refine RunR.sil hU [] 5 9 [0, 5, 6, 7, 50] [(0, .slice A xs.length c), (5, .pointer (some ⟨b3, 0, none⟩)), (6, .bool false), (7, .slice A7 xs.length c8), (50, .bool false)] ((True) ∧ True) rfl (by kernel_rfl) ⟨trivial, trivial⟩ ?_
        refine RunR.done (by kernel_rfl) ?_
        refine kseq_n ?_
        refine RunC.cond (b := false) (by kernel_rfl) (fun h => by cases h) (fun _ => ?_)
        refine RunC.skip ?_
        refine kseq_n ?_
        refine RunC.seq ?_
        refine RunC.region ?_
        refine RunR.sil hU [] 1 1 [0, 6, 7, 71] [(0, .slice A xs.length c), (6, .bool false), (7, .slice A7 xs.length c8), (71, .slice A7 xs.length c8)] ((True) ∧ True) rfl (by kernel_rfl) ⟨trivial, trivial⟩ ?_
        refine RunR.step (dst := some 72) (op := .call { callee := .value (.func 26), args := #[.tmp 71], argTypes := #[22] }) (by kernel_rfl) (Step.call 26 [.slice A7 xs.length c8] (by kernel_rfl) (by kernel_rfl) [row 5 1 (.slice A7 xs.length c8) xs.length (nums .u8 xs)] [] [row 5 1 (.slice (some ⟨b14, 0, none⟩) 1 1) 1 (nums .u8 ([0] : List Int)), blk b3 36 [.int .u16 a, .int .u16 b], vw A (nums .u8 xs), vw A2 (nums .u8 ys)] (w_Wipe_spec A7 xs.length c8 xs) [0] (by kernel_rfl) (Lend.nil _) ?_)
        rintro _ _ ⟨rfl, rfl⟩
        refine RunR.done (by kernel_rfl) ?_
        refine kseq_n ?_
        refine RunC.seq ?_
        refine RunC.region ?_
        refine RunR.sil hU [] 3 3 [6, 73, 75] [(6, .bool false), (73, .slice A7 xs.length c8), (75, .int .i64 ((xs.length : Nat) : Int))] ((True) ∧ (True) ∧ (True) ∧ True) rfl (by kernel_rfl) ⟨trivial, trivial, trivial, trivial⟩ ?_
        refine RunR.step (dst := some 76) (op := .makeSlice 22 (.tmp 75) (.tmp 75)) (by kernel_rfl) (Step.make_nums hU 5 1 .u8 .i64 .i64 (((xs.length : Nat) : Int)) rfl rfl (by kernel_rfl) (by kernel_rfl) (by omega) (by omega) (by kernel_rfl) (fun b34 => ?_))
        have hl35 : (List.replicate ((((xs.length : Nat) : Int)).toNat) (0 : Int)).length = (((xs.length : Nat) : Int)).toNat := List.length_replicate
        refine RunR.step (dst := some 77) (op := .call { callee := .value (.func 18), args := #[.tmp 73, .tmp 76], argTypes := #[22, 22] }) (by kernel_rfl) (Step.call 18 [.slice A7 xs.length c8, .slice (some ⟨b34, 0, none⟩) ((((xs.length : Nat) : Int)).toNat) ((((xs.length : Nat) : Int)).toNat)] (by kernel_rfl) (by kernel_rfl) [] [vw A7 (nums .u8 (List.replicate xs.length (0 : Int))), vw (some ⟨b34, 0, none⟩) (nums .u8 (List.replicate ((((xs.length : Nat) : Int)).toNat) (0 : Int)))] [row 5 1 (.slice (some ⟨b34, 0, none⟩) ((((xs.length : Nat) : Int)).toNat) ((((xs.length : Nat) : Int)).toNat)) ((((xs.length : Nat) : Int)).toNat) (nums .u8 (List.replicate ((((xs.length : Nat) : Int)).toNat) (0 : Int))), row 5 1 (.slice A7 xs.length c8) xs.length (nums .u8 (List.replicate xs.length (0 : Int))), row 5 1 (.slice (some ⟨b14, 0, none⟩) 1 1) 1 (nums .u8 ([0] : List Int)), blk b3 36 [.int .u16 a, .int .u16 b], vw A (nums .u8 xs), vw A2 (nums .u8 ys)] (r_Equal_spec A7 c8 (List.replicate xs.length (0 : Int)) (some ⟨b34, 0, none⟩) ((((xs.length : Nat) : Int)).toNat) (List.replicate ((((xs.length : Nat) : Int)).toNat) (0 : Int)) xs.length ((((xs.length : Nat) : Int)).toNat) (by (repeat first | assumption | (simp only [fits]; omega) | with_reducible first | exact fits_wrap _ _ | exact fits_bits2 _ _ _ _ | exact In.nil _ | exact In.sb _ | exact In.replicate _ _ | apply In.append | apply In.cons | apply In.set | apply In.take | apply In.drop | apply In.rev)) (by first | assumption | omega | (simp only [List.length_append, List.length_cons, List.length_nil, List.length_set, List.length_replicate, List.length_take, List.length_drop]; omega) | (simp only [fits] at *; omega) | (simp only [List.length_append, List.length_cons, List.length_nil, List.length_set, List.length_replicate, List.length_take, List.length_drop] at *; omega) | (simp; done) | decide) (by (repeat first | assumption | (simp only [fits]; omega) | with_reducible first | exact fits_wrap _ _ | exact fits_bits2 _ _ _ _ | exact In.nil _ | exact In.sb _ | exact In.replicate _ _ | apply In.append | apply In.cons | apply In.set | apply In.take | apply In.drop | apply In.rev)) (by first | assumption | omega | (simp only [List.length_append, List.length_cons, List.length_nil, List.length_set, List.length_replicate, List.length_take, List.length_drop]; omega) | (simp only [fits] at *; omega) | (simp only [List.length_append, List.length_cons, List.length_nil, List.length_set, List.length_replicate, List.length_take, List.length_drop] at *; omega) | (simp; done) | decide) (by first | rfl | assumption | omega | (simp only [List.length_append, List.length_cons, List.length_nil, List.length_set, List.length_replicate, List.length_take, List.length_drop]; omega) | (simp; done)) (by first | rfl | assumption | omega | (simp only [List.length_append, List.length_cons, List.length_nil, List.length_set, List.length_replicate, List.length_take, List.length_drop]; omega) | (simp; done))) [] (by kernel_rfl) (((Lend.nil _).tells 0 (row 5 1 (.slice (some ⟨b34, 0, none⟩) ((((xs.length : Nat) : Int)).toNat) ((((xs.length : Nat) : Int)).toNat)) ((((xs.length : Nat) : Int)).toNat) (nums .u8 (List.replicate ((((xs.length : Nat) : Int)).toNat) (0 : Int)))) (some ⟨b34, 0, none⟩) (nums .u8 (List.replicate ((((xs.length : Nat) : Int)).toNat) (0 : Int))) (by kernel_rfl) (tells_row _ _ _ _ _ _)).tells 1 (row 5 1 (.slice A7 xs.length c8) xs.length (nums .u8 (List.replicate xs.length (0 : Int)))) A7 (nums .u8 (List.replicate xs.length (0 : Int))) (by kernel_rfl) (tells_row _ _ _ _ _ _)) ?_)
        rintro _ _ ⟨rfl, rfl⟩
        refine RunR.sil hU [] 1 6 [6] [(6, .bool (decide ((List.replicate xs.length (0 : Int)) = (List.replicate ((((xs.length : Nat) : Int)).toNat) (0 : Int)))))] ((True) ∧ True) rfl (by kernel_rfl) ⟨trivial, trivial⟩ ?_
        refine RunR.env [6] [(6, .bool (decide ((List.replicate xs.length (0 : Int)) = (List.replicate ((((xs.length : Nat) : Int)).toNat) (0 : Int)))))] (by kernel_rfl) ?_
        have hk36 : ((List.replicate xs.length (0 : Int)) = (List.replicate ((((xs.length : Nat) : Int)).toNat) (0 : Int))) := by simp
        refine RunR.enveq [(6, .bool true)] (by rw [decide_eq_true hk36]; try rfl) ?_
        refine RunR.done (by kernel_rfl) ?_
        refine kseq_n ?_
        refine RunC.ret ?_
        refine kret_r [.bool true] [] [] ⟨rfl, trivial⟩ (by kernel_rfl) rfl ⟨rfl, rfl⟩
end Go.Proofs.Ytcpohiegijpghaa.LWordEqual
