/- The law WordGets returns true whatever it is handed: its walk, on the contracts of what it calls. -/
import Derived.Test.YtcpohiegijpghaaW1
namespace Go.Proofs.Ytcpohiegijpghaa.LWordGets
open Go Go.Proofs.Ytcpohiegijpghaa.SL Go.Proofs.Ytcpohiegijpghaa.SL.W Go.Proofs.Ytcpohiegijpghaa.W1
set_option linter.unusedVariables false
set_option linter.unusedSimpArgs false
set_option maxRecDepth 100000
set_option maxHeartbeats 4000000
def U : Tab where
  und := [(29, .int .u32), (31, .int .u64)]
  fld := []
  sz := [(29, 1), (31, 1)]
  ti := [(29, (1, 4, .int .u32 0)), (31, (1, 8, .int .u64 0))]

theorem hU : U.OK Try.prog where
  und := by
    intro p hp
    simp only [U, List.mem_cons, List.not_mem_nil, or_false] at hp
    rcases hp with rfl | rfl
    · exact Try.underlying29
    · exact Try.underlying31
  fld := by
    intro p hp; cases hp
  sz := by
    intro p hp
    simp only [U, List.mem_cons, List.not_mem_nil, or_false] at hp
    rcases hp with rfl | rfl
    · exact ⟨Try.prog.types[29]!, by kernel_rfl, by kernel_rfl⟩
    · exact ⟨Try.prog.types[31]!, by kernel_rfl, by kernel_rfl⟩
  ti := by
    intro p hp
    simp only [U, List.mem_cons, List.not_mem_nil, or_false] at hp
    rcases hp with rfl | rfl
    · exact ⟨Try.prog.types[29]!, by kernel_rfl, by kernel_rfl, by kernel_rfl, by kernel_rfl⟩
    · exact ⟨Try.prog.types[31]!, by kernel_rfl, by kernel_rfl, by kernel_rfl, by kernel_rfl⟩
  mixed := by kernel_rfl

theorem l1_WordGets_spec (A : Option Addr) (c : Nat) (xs : List Int) (l_xs : Nat) (hx : In .u8 xs) (hn : xs.length ≤ 140737488351232) (hl_xs : xs.length = l_xs) :
    CallsS Try.prog 4 [.slice A l_xs c] [vw A (nums .u8 xs)] (fun r D => r = .bool true ∧ D = []) := by
  subst hl_xs
  refine CallsS.enter hU Try.f4 _ [.tmp 2] 33 Try.func4 rfl (by decide) rfl rfl (by kernel_rfl) fun w0 W => ?_
  refine RunC.know (p := 0 < xs.length → Option.isSome A = true) (fun w hs => vw_some hs 0 rfl (by simp [nums_length])) (fun hA1 => ?_)
  refine RunC.seq ?_
  refine RunC.region ?_
  refine RunR.sil hU [] 1 1 [0, 2] [(0, .slice A xs.length c), (2, .bool false)] ((True) ∧ True) rfl (by kernel_rfl) ⟨trivial, trivial⟩ ?_
  refine RunR.done (by kernel_rfl) ?_
  refine kseq_n ?_
  refine RunC.seq ?_
  refine RunC.seq ?_
  refine RunC.region ?_
  refine RunR.step (dst := some 3) (op := .call { callee := .value (.func 13), args := #[], argTypes := #[] }) (by kernel_rfl) (Step.call 13 [] (by kernel_rfl) (by kernel_rfl) [] [] [vw A (nums .u8 xs)] (l1_awake_spec) [] (by kernel_rfl) (Lend.nil _) ?_)
  rintro _ _ ⟨rfl, rfl⟩
  refine RunR.sil hU [] 1 2 [0, 2, 4] [(0, .slice A xs.length c), (2, .bool false), (4, .bool false)] ((True) ∧ True) rfl (by kernel_rfl) ⟨trivial, trivial⟩ ?_
  refine RunR.done (by kernel_rfl) ?_
  refine kseq_n ?_
  refine RunC.cond (b := false) (by kernel_rfl) (fun h => by cases h) (fun _ => ?_)
  refine RunC.skip ?_
  refine kseq_n ?_
  refine RunC.seq ?_
  refine RunC.region ?_
  refine RunR.sil hU [] 1 1 [0, 2, 5] [(0, .slice A xs.length c), (2, .bool false), (5, .slice A xs.length c)] ((True) ∧ True) rfl (by kernel_rfl) ⟨trivial, trivial⟩ ?_
  refine RunR.step (dst := some 6) (op := .call { callee := .value (.func 19), args := #[.tmp 5], argTypes := #[22] }) (by kernel_rfl) (Step.call 19 [.slice A xs.length c] (by kernel_rfl) (by kernel_rfl) [] [vw A (nums .u8 xs)] [vw A (nums .u8 xs)] (w_Get32_spec A c xs xs.length hx (by first | assumption | omega | (simp only [List.length_append, List.length_cons, List.length_nil, List.length_set, List.length_replicate, List.length_take, List.length_drop]; omega) | (simp only [fits] at *; omega) | (simp only [List.length_append, List.length_cons, List.length_nil, List.length_set, List.length_replicate, List.length_take, List.length_drop] at *; omega) | (simp; done) | decide) (by first | rfl | assumption | omega | (simp only [List.length_append, List.length_cons, List.length_nil, List.length_set, List.length_replicate, List.length_take, List.length_drop]; omega) | (simp; done))) [] (by kernel_rfl) ((Lend.nil _).tells 0 (vw A (nums .u8 xs)) A (nums .u8 xs) (by kernel_rfl) (tells_vw _ _)) ?_)
  rintro _ _ ⟨rfl, rfl⟩
  refine RunR.sil hU [] 1 3 [0, 2, 6, 7] [(0, .slice A xs.length c), (2, .bool false), (6, .int .u32 (leN xs 4)), (7, .slice A xs.length c)] ((True) ∧ True) rfl (by kernel_rfl) ⟨trivial, trivial⟩ ?_
  refine RunR.step (dst := some 8) (op := .call { callee := .value (.func 20), args := #[.tmp 7, .const (.int .i64 4)], argTypes := #[22, 3] }) (by kernel_rfl) (Step.call 20 [.slice A xs.length c, .int .i64 4] (by kernel_rfl) (by kernel_rfl) [] [vw A (nums .u8 xs)] [vw A (nums .u8 xs)] (r_Get_spec A c xs 4 xs.length hx (by first | assumption | omega | (simp only [List.length_append, List.length_cons, List.length_nil, List.length_set, List.length_replicate, List.length_take, List.length_drop]; omega) | (simp only [fits] at *; omega) | (simp only [List.length_append, List.length_cons, List.length_nil, List.length_set, List.length_replicate, List.length_take, List.length_drop] at *; omega) | (simp; done) | decide) (by first | assumption | omega | (simp only [List.length_append, List.length_cons, List.length_nil, List.length_set, List.length_replicate, List.length_take, List.length_drop]; omega) | (simp only [fits] at *; omega) | (simp only [List.length_append, List.length_cons, List.length_nil, List.length_set, List.length_replicate, List.length_take, List.length_drop] at *; omega) | (simp; done) | decide) (by first | assumption | omega | (simp only [List.length_append, List.length_cons, List.length_nil, List.length_set, List.length_replicate, List.length_take, List.length_drop]; omega) | (simp only [fits] at *; omega) | (simp only [List.length_append, List.length_cons, List.length_nil, List.length_set, List.length_replicate, List.length_take, List.length_drop] at *; omega) | (simp; done) | decide) (by first | rfl | assumption | omega | (simp only [List.length_append, List.length_cons, List.length_nil, List.length_set, List.length_replicate, List.length_take, List.length_drop]; omega) | (simp; done))) [] (by kernel_rfl) ((Lend.nil _).tells 0 (vw A (nums .u8 xs)) A (nums .u8 xs) (by kernel_rfl) (tells_vw _ _)) ?_)
  rintro _ _ ⟨rfl, rfl⟩
  refine RunR.sil hU [] 3 7 [0, 2, 11] [(0, .slice A xs.length c), (2, .bool false), (11, .bool (decide ((leN xs 4) = (IntKind.wrap .u32 (leN xs (4 : Int).toNat)))))] ((True) ∧ (True) ∧ (True) ∧ True) rfl (by kernel_rfl) ⟨trivial, trivial, trivial, trivial⟩ ?_
  refine RunR.env [0, 2, 11] [(0, .slice A xs.length c), (2, .bool false), (11, .bool (decide ((leN xs 4) = (IntKind.wrap .u32 (leN xs (4 : Int).toNat)))))] (by kernel_rfl) ?_
  have hk2 : ((leN xs 4) = (IntKind.wrap .u32 (leN xs (4 : Int).toNat))) := by exact (wrap_u32 _ (leN_bd hx 4).1 (leN_bd hx 4).2).symm
  refine RunR.enveq [(0, .slice A xs.length c), (2, .bool false), (11, .bool true)] (by rw [decide_eq_true hk2]; try rfl) ?_
  refine RunR.sil hU [] 1 8 [0, 2, 11, 12] [(0, .slice A xs.length c), (2, .bool false), (11, .bool true), (12, .slice A xs.length c)] ((True) ∧ True) rfl (by kernel_rfl) ⟨trivial, trivial⟩ ?_
  refine RunR.step (dst := some 13) (op := .call { callee := .value (.func 21), args := #[.tmp 12], argTypes := #[22] }) (by kernel_rfl) (Step.call 21 [.slice A xs.length c] (by kernel_rfl) (by kernel_rfl) [] [vw A (nums .u8 xs)] [vw A (nums .u8 xs)] (w_Get64_spec A c xs xs.length hx (by first | assumption | omega | (simp only [List.length_append, List.length_cons, List.length_nil, List.length_set, List.length_replicate, List.length_take, List.length_drop]; omega) | (simp only [fits] at *; omega) | (simp only [List.length_append, List.length_cons, List.length_nil, List.length_set, List.length_replicate, List.length_take, List.length_drop] at *; omega) | (simp; done) | decide) (by first | rfl | assumption | omega | (simp only [List.length_append, List.length_cons, List.length_nil, List.length_set, List.length_replicate, List.length_take, List.length_drop]; omega) | (simp; done))) [] (by kernel_rfl) ((Lend.nil _).tells 0 (vw A (nums .u8 xs)) A (nums .u8 xs) (by kernel_rfl) (tells_vw _ _)) ?_)
  rintro _ _ ⟨rfl, rfl⟩
  refine RunR.sil hU [] 1 10 [0, 2, 11, 13, 14] [(0, .slice A xs.length c), (2, .bool false), (11, .bool true), (13, .int .u64 (leN xs 8)), (14, .slice A xs.length c)] ((True) ∧ True) rfl (by kernel_rfl) ⟨trivial, trivial⟩ ?_
  refine RunR.step (dst := some 15) (op := .call { callee := .value (.func 20), args := #[.tmp 14, .const (.int .i64 8)], argTypes := #[22, 3] }) (by kernel_rfl) (Step.call 20 [.slice A xs.length c, .int .i64 8] (by kernel_rfl) (by kernel_rfl) [] [vw A (nums .u8 xs)] [vw A (nums .u8 xs)] (r_Get_spec A c xs 8 xs.length hx (by first | assumption | omega | (simp only [List.length_append, List.length_cons, List.length_nil, List.length_set, List.length_replicate, List.length_take, List.length_drop]; omega) | (simp only [fits] at *; omega) | (simp only [List.length_append, List.length_cons, List.length_nil, List.length_set, List.length_replicate, List.length_take, List.length_drop] at *; omega) | (simp; done) | decide) (by first | assumption | omega | (simp only [List.length_append, List.length_cons, List.length_nil, List.length_set, List.length_replicate, List.length_take, List.length_drop]; omega) | (simp only [fits] at *; omega) | (simp only [List.length_append, List.length_cons, List.length_nil, List.length_set, List.length_replicate, List.length_take, List.length_drop] at *; omega) | (simp; done) | decide) (by first | assumption | omega | (simp only [List.length_append, List.length_cons, List.length_nil, List.length_set, List.length_replicate, List.length_take, List.length_drop]; omega) | (simp only [fits] at *; omega) | (simp only [List.length_append, List.length_cons, List.length_nil, List.length_set, List.length_replicate, List.length_take, List.length_drop] at *; omega) | (simp; done) | decide) (by first | rfl | assumption | omega | (simp only [List.length_append, List.length_cons, List.length_nil, List.length_set, List.length_replicate, List.length_take, List.length_drop]; omega) | (simp; done))) [] (by kernel_rfl) ((Lend.nil _).tells 0 (vw A (nums .u8 xs)) A (nums .u8 xs) (by kernel_rfl) (tells_vw _ _)) ?_)
  rintro _ _ ⟨rfl, rfl⟩
  refine RunR.sil hU [] 3 14 [0, 2, 18] [(0, .slice A xs.length c), (2, .bool false), (18, .bool (decide ((leN xs 8) = (leN xs (8 : Int).toNat))))] ((True) ∧ (True) ∧ (True) ∧ True) rfl (by kernel_rfl) ⟨trivial, trivial, trivial, trivial⟩ ?_
  refine RunR.env [0, 2, 18] [(0, .slice A xs.length c), (2, .bool false), (18, .bool (decide ((leN xs 8) = (leN xs (8 : Int).toNat))))] (by kernel_rfl) ?_
  have hk3 : ((leN xs 8) = (leN xs (8 : Int).toNat)) := by rfl
  refine RunR.enveq [(0, .slice A xs.length c), (2, .bool false), (18, .bool true)] (by rw [decide_eq_true hk3]; try rfl) ?_
  refine RunR.sil hU [] 1 15 [0, 2, 18, 19] [(0, .slice A xs.length c), (2, .bool false), (18, .bool true), (19, .slice A xs.length c)] ((True) ∧ True) rfl (by kernel_rfl) ⟨trivial, trivial⟩ ?_
  refine RunR.step (dst := some 20) (op := .call { callee := .value (.func 22), args := #[.tmp 19], argTypes := #[22] }) (by kernel_rfl) (Step.call 22 [.slice A xs.length c] (by kernel_rfl) (by kernel_rfl) [] [vw A (nums .u8 xs)] [vw A (nums .u8 xs)] (w_GetBig32_spec A c xs xs.length hx (by first | assumption | omega | (simp only [List.length_append, List.length_cons, List.length_nil, List.length_set, List.length_replicate, List.length_take, List.length_drop]; omega) | (simp only [fits] at *; omega) | (simp only [List.length_append, List.length_cons, List.length_nil, List.length_set, List.length_replicate, List.length_take, List.length_drop] at *; omega) | (simp; done) | decide) (by first | rfl | assumption | omega | (simp only [List.length_append, List.length_cons, List.length_nil, List.length_set, List.length_replicate, List.length_take, List.length_drop]; omega) | (simp; done))) [] (by kernel_rfl) ((Lend.nil _).tells 0 (vw A (nums .u8 xs)) A (nums .u8 xs) (by kernel_rfl) (tells_vw _ _)) ?_)
  rintro _ _ ⟨rfl, rfl⟩
  refine RunR.sil hU [] 1 17 [0, 2, 18, 20, 21] [(0, .slice A xs.length c), (2, .bool false), (18, .bool true), (20, .int .u32 (beN xs 4)), (21, .slice A xs.length c)] ((True) ∧ True) rfl (by kernel_rfl) ⟨trivial, trivial⟩ ?_
  refine RunR.step (dst := some 22) (op := .call { callee := .value (.func 23), args := #[.tmp 21, .const (.int .i64 4)], argTypes := #[22, 3] }) (by kernel_rfl) (Step.call 23 [.slice A xs.length c, .int .i64 4] (by kernel_rfl) (by kernel_rfl) [] [vw A (nums .u8 xs)] [vw A (nums .u8 xs)] (r_GetBig_spec A c xs 4 xs.length hx (by first | assumption | omega | (simp only [List.length_append, List.length_cons, List.length_nil, List.length_set, List.length_replicate, List.length_take, List.length_drop]; omega) | (simp only [fits] at *; omega) | (simp only [List.length_append, List.length_cons, List.length_nil, List.length_set, List.length_replicate, List.length_take, List.length_drop] at *; omega) | (simp; done) | decide) (by first | assumption | omega | (simp only [List.length_append, List.length_cons, List.length_nil, List.length_set, List.length_replicate, List.length_take, List.length_drop]; omega) | (simp only [fits] at *; omega) | (simp only [List.length_append, List.length_cons, List.length_nil, List.length_set, List.length_replicate, List.length_take, List.length_drop] at *; omega) | (simp; done) | decide) (by first | assumption | omega | (simp only [List.length_append, List.length_cons, List.length_nil, List.length_set, List.length_replicate, List.length_take, List.length_drop]; omega) | (simp only [fits] at *; omega) | (simp only [List.length_append, List.length_cons, List.length_nil, List.length_set, List.length_replicate, List.length_take, List.length_drop] at *; omega) | (simp; done) | decide) (by first | rfl | assumption | omega | (simp only [List.length_append, List.length_cons, List.length_nil, List.length_set, List.length_replicate, List.length_take, List.length_drop]; omega) | (simp; done))) [] (by kernel_rfl) ((Lend.nil _).tells 0 (vw A (nums .u8 xs)) A (nums .u8 xs) (by kernel_rfl) (tells_vw _ _)) ?_)
  rintro _ _ ⟨rfl, rfl⟩
  refine RunR.sil hU [] 4 22 [0, 2, 26] [(0, .slice A xs.length c), (2, .bool false), (26, .bool (decide ((beN xs 4) = (IntKind.wrap .u32 (beN xs (4 : Int).toNat)))))] ((True) ∧ (True) ∧ (True) ∧ (True) ∧ True) rfl (by kernel_rfl) ⟨trivial, trivial, trivial, trivial, trivial⟩ ?_
  refine RunR.env [0, 2, 26] [(0, .slice A xs.length c), (2, .bool false), (26, .bool (decide ((beN xs 4) = (IntKind.wrap .u32 (beN xs (4 : Int).toNat)))))] (by kernel_rfl) ?_
  have hk4 : ((beN xs 4) = (IntKind.wrap .u32 (beN xs (4 : Int).toNat))) := by exact (wrap_u32 _ (beN_bd hx 4).1 (beN_bd hx 4).2).symm
  refine RunR.enveq [(0, .slice A xs.length c), (2, .bool false), (26, .bool true)] (by rw [decide_eq_true hk4]; try rfl) ?_
  refine RunR.sil hU [] 1 23 [0, 2, 26, 27] [(0, .slice A xs.length c), (2, .bool false), (26, .bool true), (27, .slice A xs.length c)] ((True) ∧ True) rfl (by kernel_rfl) ⟨trivial, trivial⟩ ?_
  refine RunR.step (dst := some 28) (op := .call { callee := .value (.func 24), args := #[.tmp 27], argTypes := #[22] }) (by kernel_rfl) (Step.call 24 [.slice A xs.length c] (by kernel_rfl) (by kernel_rfl) [] [vw A (nums .u8 xs)] [vw A (nums .u8 xs)] (w_GetBig64_spec A c xs xs.length hx (by first | assumption | omega | (simp only [List.length_append, List.length_cons, List.length_nil, List.length_set, List.length_replicate, List.length_take, List.length_drop]; omega) | (simp only [fits] at *; omega) | (simp only [List.length_append, List.length_cons, List.length_nil, List.length_set, List.length_replicate, List.length_take, List.length_drop] at *; omega) | (simp; done) | decide) (by first | rfl | assumption | omega | (simp only [List.length_append, List.length_cons, List.length_nil, List.length_set, List.length_replicate, List.length_take, List.length_drop]; omega) | (simp; done))) [] (by kernel_rfl) ((Lend.nil _).tells 0 (vw A (nums .u8 xs)) A (nums .u8 xs) (by kernel_rfl) (tells_vw _ _)) ?_)
  rintro _ _ ⟨rfl, rfl⟩
  refine RunR.sil hU [] 1 25 [2, 26, 28, 29] [(2, .bool false), (26, .bool true), (28, .int .u64 (beN xs 8)), (29, .slice A xs.length c)] ((True) ∧ True) rfl (by kernel_rfl) ⟨trivial, trivial⟩ ?_
  refine RunR.step (dst := some 30) (op := .call { callee := .value (.func 23), args := #[.tmp 29, .const (.int .i64 8)], argTypes := #[22, 3] }) (by kernel_rfl) (Step.call 23 [.slice A xs.length c, .int .i64 8] (by kernel_rfl) (by kernel_rfl) [] [vw A (nums .u8 xs)] [vw A (nums .u8 xs)] (r_GetBig_spec A c xs 8 xs.length hx (by first | assumption | omega | (simp only [List.length_append, List.length_cons, List.length_nil, List.length_set, List.length_replicate, List.length_take, List.length_drop]; omega) | (simp only [fits] at *; omega) | (simp only [List.length_append, List.length_cons, List.length_nil, List.length_set, List.length_replicate, List.length_take, List.length_drop] at *; omega) | (simp; done) | decide) (by first | assumption | omega | (simp only [List.length_append, List.length_cons, List.length_nil, List.length_set, List.length_replicate, List.length_take, List.length_drop]; omega) | (simp only [fits] at *; omega) | (simp only [List.length_append, List.length_cons, List.length_nil, List.length_set, List.length_replicate, List.length_take, List.length_drop] at *; omega) | (simp; done) | decide) (by first | assumption | omega | (simp only [List.length_append, List.length_cons, List.length_nil, List.length_set, List.length_replicate, List.length_take, List.length_drop]; omega) | (simp only [fits] at *; omega) | (simp only [List.length_append, List.length_cons, List.length_nil, List.length_set, List.length_replicate, List.length_take, List.length_drop] at *; omega) | (simp; done) | decide) (by first | rfl | assumption | omega | (simp only [List.length_append, List.length_cons, List.length_nil, List.length_set, List.length_replicate, List.length_take, List.length_drop]; omega) | (simp; done))) [] (by kernel_rfl) ((Lend.nil _).tells 0 (vw A (nums .u8 xs)) A (nums .u8 xs) (by kernel_rfl) (tells_vw _ _)) ?_)
  rintro _ _ ⟨rfl, rfl⟩
  refine RunR.sil hU [] 3 29 [2] [(2, .bool (decide ((beN xs 8) = (beN xs (8 : Int).toNat))))] ((True) ∧ (True) ∧ (True) ∧ True) rfl (by kernel_rfl) ⟨trivial, trivial, trivial, trivial⟩ ?_
  refine RunR.env [2] [(2, .bool (decide ((beN xs 8) = (beN xs (8 : Int).toNat))))] (by kernel_rfl) ?_
  have hk5 : ((beN xs 8) = (beN xs (8 : Int).toNat)) := by rfl
  refine RunR.enveq [(2, .bool true)] (by rw [decide_eq_true hk5]; try rfl) ?_
  refine RunR.done (by kernel_rfl) ?_
  refine kseq_n ?_
  refine RunC.ret ?_
  refine kret_r [.bool true] [] [] ⟨rfl, trivial⟩ (by kernel_rfl) rfl ⟨rfl, rfl⟩
end Go.Proofs.Ytcpohiegijpghaa.LWordGets
