/- The law WordHex returns true whatever it is handed: its walk, on the contracts of what it calls. -/
import Derived.Test.YtcpohiegijpghaaW1
namespace Go.Proofs.Ytcpohiegijpghaa.LWordHex
open Go Go.Proofs.Ytcpohiegijpghaa.SL Go.Proofs.Ytcpohiegijpghaa.SL.W Go.Proofs.Ytcpohiegijpghaa.W1
set_option linter.unusedVariables false
set_option linter.unusedSimpArgs false
set_option maxRecDepth 100000
set_option maxHeartbeats 4000000
def U : Tab where
  und := [(3, .int .i64), (4, .bool), (5, .int .u8), (9, .string), (22, .slice 5)]
  fld := []
  sz := [(3, 1), (4, 1), (5, 1), (9, 1), (22, 1)]
  ti := [(3, (1, 8, .int .i64 0)), (4, (1, 1, .bool false)), (5, (1, 1, .int .u8 0)), (9, (1, 16, .string ⟨#[]⟩)), (22, (1, 24, .slice none 0 0))]

theorem hU : U.OK Try.prog where
  und := by
    intro p hp
    simp only [U, List.mem_cons, List.not_mem_nil, or_false] at hp
    rcases hp with rfl | rfl | rfl | rfl | rfl
    · exact Try.underlying3
    · exact Try.underlying4
    · exact Try.underlying5
    · exact Try.underlying9
    · exact Try.underlying22
  fld := by
    intro p hp; cases hp
  sz := by
    intro p hp
    simp only [U, List.mem_cons, List.not_mem_nil, or_false] at hp
    rcases hp with rfl | rfl | rfl | rfl | rfl
    · exact ⟨Try.prog.types[3]!, by kernel_rfl, by kernel_rfl⟩
    · exact ⟨Try.prog.types[4]!, by kernel_rfl, by kernel_rfl⟩
    · exact ⟨Try.prog.types[5]!, by kernel_rfl, by kernel_rfl⟩
    · exact ⟨Try.prog.types[9]!, by kernel_rfl, by kernel_rfl⟩
    · exact ⟨Try.prog.types[22]!, by kernel_rfl, by kernel_rfl⟩
  ti := by
    intro p hp
    simp only [U, List.mem_cons, List.not_mem_nil, or_false] at hp
    rcases hp with rfl | rfl | rfl | rfl | rfl
    · exact ⟨Try.prog.types[3]!, by kernel_rfl, by kernel_rfl, by kernel_rfl, by kernel_rfl⟩
    · exact ⟨Try.prog.types[4]!, by kernel_rfl, by kernel_rfl, by kernel_rfl, by kernel_rfl⟩
    · exact ⟨Try.prog.types[5]!, by kernel_rfl, by kernel_rfl, by kernel_rfl, by kernel_rfl⟩
    · exact ⟨Try.prog.types[9]!, by kernel_rfl, by kernel_rfl, by kernel_rfl, by kernel_rfl⟩
    · exact ⟨Try.prog.types[22]!, by kernel_rfl, by kernel_rfl, by kernel_rfl, by kernel_rfl⟩
  mixed := by kernel_rfl

theorem l1_WordHex_spec (A : Option Addr) (c : Nat) (xs : List Int) (s : ByteArray) (l_xs : Nat) (hx : In .u8 xs) (hn : xs.length ≤ 140737488351232) (hs : (s : ByteArray).size ≤ 140737488355328) (hl_xs : xs.length = l_xs) :
    CallsS Try.prog 3 [.slice A l_xs c, .string s] [vw A (nums .u8 xs)] (fun r D => r = .bool true ∧ D = []) := by
  subst hl_xs
  refine CallsS.enter hU Try.f3 _ [.tmp 4] 60 Try.func3 rfl (by decide) rfl rfl (by kernel_rfl) fun w0 W => ?_
  refine RunC.know (p := 0 < xs.length → Option.isSome A = true) (fun w hs => vw_some hs 0 rfl (by simp [nums_length])) (fun hA1 => ?_)
  refine RunC.seq ?_
  refine RunC.region ?_
  refine RunR.sil hU [] 1 1 [0, 1, 4] [(0, .slice A xs.length c), (1, .string s), (4, .bool false)] ((True) ∧ True) rfl (by kernel_rfl) ⟨trivial, trivial⟩ ?_
  refine RunR.done (by kernel_rfl) ?_
  refine kseq_n ?_
  refine RunC.seq ?_
  refine RunC.seq ?_
  refine RunC.region ?_
  refine RunR.step (dst := some 11) (op := .call { callee := .value (.func 13), args := #[], argTypes := #[] }) (by kernel_rfl) (Step.call 13 [] (by kernel_rfl) (by kernel_rfl) [] [] [vw A (nums .u8 xs)] (l1_awake_spec) [] (by kernel_rfl) (Lend.nil _) ?_)
  rintro _ _ ⟨rfl, rfl⟩
  refine RunR.sil hU [] 1 2 [0, 1, 4, 12] [(0, .slice A xs.length c), (1, .string s), (4, .bool false), (12, .bool false)] ((True) ∧ True) rfl (by kernel_rfl) ⟨trivial, trivial⟩ ?_
  refine RunR.done (by kernel_rfl) ?_
  refine kseq_n ?_
  refine RunC.cond (b := false) (by kernel_rfl) (fun h => by cases h) (fun _ => ?_)
  refine RunC.skip ?_
  refine kseq_n ?_
  refine RunC.seq ?_
  refine RunC.seq ?_
  refine RunC.region ?_
  refine RunR.sil hU [] 4 4 [0, 1, 4, 16] [(0, .slice A xs.length c), (1, .string s), (4, .bool false), (16, .bool (decide (((xs.length : Nat) : Int) > 4096)))] ((True) ∧ (True) ∧ (True) ∧ (True) ∧ True) rfl (by kernel_rfl) ⟨trivial, trivial, trivial, trivial, trivial⟩ ?_
  refine RunR.env [0, 1, 4, 16] [(0, .slice A xs.length c), (1, .string s), (4, .bool false), (16, .bool (decide (((xs.length : Nat) : Int) > 4096)))] (by kernel_rfl) ?_
  by_cases h2 : ((xs.length : Nat) : Int) > 4096
  · skip
    refine RunR.enveq [(0, .slice A xs.length c), (1, .string s), (4, .bool false), (16, .bool true)] (by rw [decide_eq_true h2]; try rfl) ?_
    refine RunR.sil hU [] 4 8 [0, 1, 4, 20] [(0, .slice A xs.length c), (1, .string s), (4, .bool false), (20, .bool true)] ((True) ∧ True) rfl (by kernel_rfl) ⟨trivial, trivial⟩ ?_
    refine RunR.done (by kernel_rfl) ?_
    refine kseq_n ?_
    refine RunC.cond (b := true) (by kernel_rfl) (fun _ => ?_) (fun h => by cases h)
    refine RunC.seq ?_
    refine RunC.region ?_
    refine RunR.sil hU [] 1 1 [0, 1, 4] [(0, .slice A xs.length c), (1, .string s), (4, .bool true)] ((True) ∧ True) rfl (by kernel_rfl) ⟨trivial, trivial⟩ ?_
    refine RunR.done (by kernel_rfl) ?_
    refine kseq_n ?_
    refine RunC.ret ?_
    refine kseq_r ?_
    refine kret_r [.bool true] [] [] ⟨rfl, trivial⟩ (by kernel_rfl) rfl ⟨rfl, rfl⟩
  · skip
    refine RunR.enveq [(0, .slice A xs.length c), (1, .string s), (4, .bool false), (16, .bool false)] (by rw [decide_eq_false h2]; try rfl) ?_
    refine RunR.sil hU [] 4 8 [0, 1, 4, 20] [(0, .slice A xs.length c), (1, .string s), (4, .bool false), (20, .bool (decide (((s : ByteArray).size : Int) > 4096)))] ((True) ∧ (True) ∧ (True) ∧ (True) ∧ True) rfl (by kernel_rfl) ⟨trivial, trivial, trivial, trivial, trivial⟩ ?_
    refine RunR.done (by kernel_rfl) ?_
    refine kseq_n ?_
    refine RunC.condp (((s : ByteArray).size : Int) > 4096) (by kernel_rfl) (fun h3 => ?_) (fun h3 => ?_)
    · skip
      refine RunC.seq ?_
      refine RunC.region ?_
      refine RunR.sil hU [] 1 1 [0, 1, 4] [(0, .slice A xs.length c), (1, .string s), (4, .bool true)] ((True) ∧ True) rfl (by kernel_rfl) ⟨trivial, trivial⟩ ?_
      refine RunR.done (by kernel_rfl) ?_
      refine kseq_n ?_
      refine RunC.ret ?_
      refine kseq_r ?_
      refine kret_r [.bool true] [] [] ⟨rfl, trivial⟩ (by kernel_rfl) rfl ⟨rfl, rfl⟩
    · skip
      refine RunC.skip ?_
      refine kseq_n ?_
      refine RunC.seq ?_
      refine RunC.region ?_
      refine RunR.sil hU [] 1 1 [0, 1, 4, 22] [(0, .slice A xs.length c), (1, .string s), (4, .bool false), (22, .string s)] ((True) ∧ True) rfl (by kernel_rfl) ⟨trivial, trivial⟩ ?_
      refine RunR.step (dst := some 23) (op := .call { callee := .value (.func 14), args := #[.tmp 22], argTypes := #[9] }) (by kernel_rfl) (Step.call 14 [.string s] (by kernel_rfl) (by kernel_rfl) [] [] [vw A (nums .u8 xs)] (w_Unhex_spec s (by first | assumption | omega | (simp only [List.length_append, List.length_cons, List.length_nil, List.length_set, List.length_replicate, List.length_take, List.length_drop]; omega) | (simp only [fits] at *; omega) | (simp only [List.length_append, List.length_cons, List.length_nil, List.length_set, List.length_replicate, List.length_take, List.length_drop] at *; omega) | (simp; done) | decide)) [] (by kernel_rfl) (Lend.nil _) ?_)
      rintro _ _ ⟨A4, c5, zs6, ok7, rfl, rfl, hp8, hp9, hp10, hp11, hp12, hp13⟩
      refine RunR.sil hU [] 5 7 [0, 1, 4, 5, 6] [(0, .slice A xs.length c), (1, .string s), (4, .bool false), (5, .slice A4 zs6.length c5), (6, .bool ok7)] ((True) ∧ (True) ∧ (True) ∧ (True) ∧ (True) ∧ True) rfl (by kernel_rfl) ⟨trivial, trivial, trivial, trivial, trivial, trivial⟩ ?_
      refine RunR.done (by kernel_rfl) ?_
      refine kseq_n ?_
      refine RunC.seq ?_
      refine RunC.region ?_
      refine RunR.sil hU [] 1 1 [0, 4, 5, 6, 27] [(0, .slice A xs.length c), (4, .bool false), (5, .slice A4 zs6.length c5), (6, .bool ok7), (27, .string s)] ((True) ∧ True) rfl (by kernel_rfl) ⟨trivial, trivial⟩ ?_
      refine RunR.step (dst := some 28) (op := .call { callee := .value (.func 15), args := #[.tmp 27], argTypes := #[9] }) (by kernel_rfl) (Step.call 15 [.string s] (by kernel_rfl) (by kernel_rfl) [] [] [row 5 1 (.slice A4 zs6.length c5) zs6.length (nums .u8 zs6), vw A (nums .u8 xs)] (r_Unhex_spec s (by first | assumption | omega | (simp only [List.length_append, List.length_cons, List.length_nil, List.length_set, List.length_replicate, List.length_take, List.length_drop]; omega) | (simp only [fits] at *; omega) | (simp only [List.length_append, List.length_cons, List.length_nil, List.length_set, List.length_replicate, List.length_take, List.length_drop] at *; omega) | (simp; done) | decide)) [] (by kernel_rfl) (Lend.nil _) ?_)
      rintro _ _ ⟨A14, c15, zs16, ok17, rfl, rfl, hp18, hp19, hp20, hp21, hp22, hp23⟩
      refine RunR.sil hU [] 5 7 [0, 4, 5, 6, 7, 8] [(0, .slice A xs.length c), (4, .bool false), (5, .slice A4 zs6.length c5), (6, .bool ok7), (7, .slice A14 zs16.length c15), (8, .bool ok17)] ((True) ∧ (True) ∧ (True) ∧ (True) ∧ (True) ∧ True) rfl (by kernel_rfl) ⟨trivial, trivial, trivial, trivial, trivial, trivial⟩ ?_
      refine RunR.done (by kernel_rfl) ?_
      refine kseq_n ?_
      refine RunC.seq ?_
      refine RunC.region ?_
      refine RunR.sil hU [] 1 1 [0, 4, 5, 6, 7, 8, 32] [(0, .slice A xs.length c), (4, .bool false), (5, .slice A4 zs6.length c5), (6, .bool ok7), (7, .slice A14 zs16.length c15), (8, .bool ok17), (32, .slice A xs.length c)] ((True) ∧ True) rfl (by kernel_rfl) ⟨trivial, trivial⟩ ?_
      refine RunR.step (dst := some 33) (op := .call { callee := .value (.func 16), args := #[.tmp 32], argTypes := #[22] }) (by kernel_rfl) (Step.call 16 [.slice A xs.length c] (by kernel_rfl) (by kernel_rfl) [] [vw A (nums .u8 xs)] [row 5 1 (.slice A14 zs16.length c15) zs16.length (nums .u8 zs16), row 5 1 (.slice A4 zs6.length c5) zs6.length (nums .u8 zs6), vw A (nums .u8 xs)] (w_Hex_spec A c xs xs.length hx (by first | assumption | omega | (simp only [List.length_append, List.length_cons, List.length_nil, List.length_set, List.length_replicate, List.length_take, List.length_drop]; omega) | (simp only [fits] at *; omega) | (simp only [List.length_append, List.length_cons, List.length_nil, List.length_set, List.length_replicate, List.length_take, List.length_drop] at *; omega) | (simp; done) | decide) (by first | rfl | assumption | omega | (simp only [List.length_append, List.length_cons, List.length_nil, List.length_set, List.length_replicate, List.length_take, List.length_drop]; omega) | (simp; done))) [] (by kernel_rfl) ((Lend.nil _).tells 2 (vw A (nums .u8 xs)) A (nums .u8 xs) (by kernel_rfl) (tells_vw _ _)) ?_)
      rintro _ _ ⟨rfl, rfl⟩
      have hq24 : (strOfNums (hexl xs)).size ≤ 8192 := by rw [strOfNums_size, hexl_len]; omega
      refine RunR.step (dst := some 34) (op := .call { callee := .value (.func 14), args := #[.tmp 33], argTypes := #[9] }) (by kernel_rfl) (Step.call 14 [.string (strOfNums (hexl xs))] (by kernel_rfl) (by kernel_rfl) [] [] [row 5 1 (.slice A14 zs16.length c15) zs16.length (nums .u8 zs16), row 5 1 (.slice A4 zs6.length c5) zs6.length (nums .u8 zs6), vw A (nums .u8 xs)] (w_Unhex_spec (strOfNums (hexl xs)) (by first | assumption | omega | (simp only [List.length_append, List.length_cons, List.length_nil, List.length_set, List.length_replicate, List.length_take, List.length_drop]; omega) | (simp only [fits] at *; omega) | (simp only [List.length_append, List.length_cons, List.length_nil, List.length_set, List.length_replicate, List.length_take, List.length_drop] at *; omega) | (simp; done) | decide)) [] (by kernel_rfl) (Lend.nil _) ?_)
      rintro _ _ ⟨A25, c26, zs27, ok28, rfl, rfl, hp29, hp30, hp31, hp32, hp33, hp34⟩
      refine RunR.sil hU [] 5 8 [0, 4, 5, 6, 7, 8, 9, 10] [(0, .slice A xs.length c), (4, .bool false), (5, .slice A4 zs6.length c5), (6, .bool ok7), (7, .slice A14 zs16.length c15), (8, .bool ok17), (9, .slice A25 zs27.length c26), (10, .bool ok28)] ((True) ∧ (True) ∧ (True) ∧ (True) ∧ (True) ∧ True) rfl (by kernel_rfl) ⟨trivial, trivial, trivial, trivial, trivial, trivial⟩ ?_
      refine RunR.done (by kernel_rfl) ?_
      refine kseq_n ?_
      refine RunC.seq ?_
      refine RunC.region ?_
      refine RunR.sil hU [] 1 1 [0, 4, 5, 6, 7, 8, 9, 10, 37] [(0, .slice A xs.length c), (4, .bool false), (5, .slice A4 zs6.length c5), (6, .bool ok7), (7, .slice A14 zs16.length c15), (8, .bool ok17), (9, .slice A25 zs27.length c26), (10, .bool ok28), (37, .slice A xs.length c)] ((True) ∧ True) rfl (by kernel_rfl) ⟨trivial, trivial⟩ ?_
      refine RunR.step (dst := some 38) (op := .call { callee := .value (.func 16), args := #[.tmp 37], argTypes := #[22] }) (by kernel_rfl) (Step.call 16 [.slice A xs.length c] (by kernel_rfl) (by kernel_rfl) [] [vw A (nums .u8 xs)] [row 5 1 (.slice A25 zs27.length c26) zs27.length (nums .u8 zs27), row 5 1 (.slice A14 zs16.length c15) zs16.length (nums .u8 zs16), row 5 1 (.slice A4 zs6.length c5) zs6.length (nums .u8 zs6), vw A (nums .u8 xs)] (w_Hex_spec A c xs xs.length hx (by first | assumption | omega | (simp only [List.length_append, List.length_cons, List.length_nil, List.length_set, List.length_replicate, List.length_take, List.length_drop]; omega) | (simp only [fits] at *; omega) | (simp only [List.length_append, List.length_cons, List.length_nil, List.length_set, List.length_replicate, List.length_take, List.length_drop] at *; omega) | (simp; done) | decide) (by first | rfl | assumption | omega | (simp only [List.length_append, List.length_cons, List.length_nil, List.length_set, List.length_replicate, List.length_take, List.length_drop]; omega) | (simp; done))) [] (by kernel_rfl) ((Lend.nil _).tells 3 (vw A (nums .u8 xs)) A (nums .u8 xs) (by kernel_rfl) (tells_vw _ _)) ?_)
      rintro _ _ ⟨rfl, rfl⟩
      have hq35 : (strOfNums (hexl xs)).size ≤ 8192 := by rw [strOfNums_size, hexl_len]; omega
      refine RunR.sil hU [] 1 3 [0, 4, 5, 6, 7, 8, 9, 10, 38, 39] [(0, .slice A xs.length c), (4, .bool false), (5, .slice A4 zs6.length c5), (6, .bool ok7), (7, .slice A14 zs16.length c15), (8, .bool ok17), (9, .slice A25 zs27.length c26), (10, .bool ok28), (38, .string (strOfNums (hexl xs))), (39, .slice A xs.length c)] ((True) ∧ True) rfl (by kernel_rfl) ⟨trivial, trivial⟩ ?_
      refine RunR.step (dst := some 40) (op := .call { callee := .value (.func 17), args := #[.tmp 39], argTypes := #[22] }) (by kernel_rfl) (Step.call 17 [.slice A xs.length c] (by kernel_rfl) (by kernel_rfl) [] [vw A (nums .u8 xs)] [row 5 1 (.slice A25 zs27.length c26) zs27.length (nums .u8 zs27), row 5 1 (.slice A14 zs16.length c15) zs16.length (nums .u8 zs16), row 5 1 (.slice A4 zs6.length c5) zs6.length (nums .u8 zs6), vw A (nums .u8 xs)] (r_Hex_spec A c xs xs.length hx (by first | assumption | omega | (simp only [List.length_append, List.length_cons, List.length_nil, List.length_set, List.length_replicate, List.length_take, List.length_drop]; omega) | (simp only [fits] at *; omega) | (simp only [List.length_append, List.length_cons, List.length_nil, List.length_set, List.length_replicate, List.length_take, List.length_drop] at *; omega) | (simp; done) | decide) (by first | rfl | assumption | omega | (simp only [List.length_append, List.length_cons, List.length_nil, List.length_set, List.length_replicate, List.length_take, List.length_drop]; omega) | (simp; done))) [] (by kernel_rfl) ((Lend.nil _).tells 3 (vw A (nums .u8 xs)) A (nums .u8 xs) (by kernel_rfl) (tells_vw _ _)) ?_)
      rintro _ _ ⟨rfl, rfl⟩
      refine RunR.sil hU [] 2 6 [0, 4, 5, 6, 7, 8, 9, 10, 42] [(0, .slice A xs.length c), (4, .bool false), (5, .slice A4 zs6.length c5), (6, .bool ok7), (7, .slice A14 zs16.length c15), (8, .bool ok17), (9, .slice A25 zs27.length c26), (10, .bool ok28), (42, .bool (decide ((strOfNums (hexl xs)) = (strOfNums (hexl xs)))))] ((True) ∧ (True) ∧ True) rfl (by kernel_rfl) ⟨trivial, trivial, trivial⟩ ?_
      refine RunR.env [0, 4, 5, 6, 7, 8, 9, 10, 42] [(0, .slice A xs.length c), (4, .bool false), (5, .slice A4 zs6.length c5), (6, .bool ok7), (7, .slice A14 zs16.length c15), (8, .bool ok17), (9, .slice A25 zs27.length c26), (10, .bool ok28), (42, .bool (decide ((strOfNums (hexl xs)) = (strOfNums (hexl xs)))))] (by kernel_rfl) ?_
      have hk36 : ((strOfNums (hexl xs)) = (strOfNums (hexl xs))) := by rfl
      refine RunR.enveq [(0, .slice A xs.length c), (4, .bool false), (5, .slice A4 zs6.length c5), (6, .bool ok7), (7, .slice A14 zs16.length c15), (8, .bool ok17), (9, .slice A25 zs27.length c26), (10, .bool ok28), (42, .bool true)] (by rw [decide_eq_true hk36]; try rfl) ?_
      refine RunR.sil hU [] 2 8 [0, 4, 6, 8, 9, 10, 42, 43, 44] [(0, .slice A xs.length c), (4, .bool false), (6, .bool ok7), (8, .bool ok17), (9, .slice A25 zs27.length c26), (10, .bool ok28), (42, .bool true), (43, .slice A4 zs6.length c5), (44, .slice A14 zs16.length c15)] ((True) ∧ (True) ∧ True) rfl (by kernel_rfl) ⟨trivial, trivial, trivial⟩ ?_
      refine RunR.step (dst := some 45) (op := .call { callee := .value (.func 18), args := #[.tmp 43, .tmp 44], argTypes := #[22, 22] }) (by kernel_rfl) (Step.call 18 [.slice A4 zs6.length c5, .slice A14 zs16.length c15] (by kernel_rfl) (by kernel_rfl) [] [vw A4 (nums .u8 zs6), vw A14 (nums .u8 zs16)] [row 5 1 (.slice A25 zs27.length c26) zs27.length (nums .u8 zs27), row 5 1 (.slice A14 zs16.length c15) zs16.length (nums .u8 zs16), row 5 1 (.slice A4 zs6.length c5) zs6.length (nums .u8 zs6), vw A (nums .u8 xs)] (r_Equal_spec A4 c5 zs6 A14 c15 zs16 zs6.length zs16.length hp10 (by first | assumption | omega | (simp only [List.length_append, List.length_cons, List.length_nil, List.length_set, List.length_replicate, List.length_take, List.length_drop]; omega) | (simp only [fits] at *; omega) | (simp only [List.length_append, List.length_cons, List.length_nil, List.length_set, List.length_replicate, List.length_take, List.length_drop] at *; omega) | (simp; done) | decide) hp20 (by first | assumption | omega | (simp only [List.length_append, List.length_cons, List.length_nil, List.length_set, List.length_replicate, List.length_take, List.length_drop]; omega) | (simp only [fits] at *; omega) | (simp only [List.length_append, List.length_cons, List.length_nil, List.length_set, List.length_replicate, List.length_take, List.length_drop] at *; omega) | (simp; done) | decide) (by first | rfl | assumption | omega | (simp only [List.length_append, List.length_cons, List.length_nil, List.length_set, List.length_replicate, List.length_take, List.length_drop]; omega) | (simp; done)) (by first | rfl | assumption | omega | (simp only [List.length_append, List.length_cons, List.length_nil, List.length_set, List.length_replicate, List.length_take, List.length_drop]; omega) | (simp; done))) [] (by kernel_rfl) (((Lend.nil _).tells 1 (row 5 1 (.slice A14 zs16.length c15) zs16.length (nums .u8 zs16)) A14 (nums .u8 zs16) (by kernel_rfl) (tells_row _ _ _ _ _ _)).tells 2 (row 5 1 (.slice A4 zs6.length c5) zs6.length (nums .u8 zs6)) A4 (nums .u8 zs6) (by kernel_rfl) (tells_row _ _ _ _ _ _)) ?_)
      rintro _ _ ⟨rfl, rfl⟩
      refine RunR.sil hU [] 2 11 [0, 4, 6, 8, 9, 10, 47] [(0, .slice A xs.length c), (4, .bool false), (6, .bool ok7), (8, .bool ok17), (9, .slice A25 zs27.length c26), (10, .bool ok28), (47, .bool (decide (zs6 = zs16)))] ((True) ∧ (True) ∧ True) rfl (by kernel_rfl) ⟨trivial, trivial, trivial⟩ ?_
      refine RunR.env [0, 4, 6, 8, 9, 10, 47] [(0, .slice A xs.length c), (4, .bool false), (6, .bool ok7), (8, .bool ok17), (9, .slice A25 zs27.length c26), (10, .bool ok28), (47, .bool (decide (zs6 = zs16)))] (by kernel_rfl) ?_
      have hk37 : (zs6 = zs16) := by first | (subst_vars; rfl) | exact un_zs (by assumption) (by assumption) (by assumption) (by assumption)
      refine RunR.enveq [(0, .slice A xs.length c), (4, .bool false), (6, .bool ok7), (8, .bool ok17), (9, .slice A25 zs27.length c26), (10, .bool ok28), (47, .bool true)] (by rw [decide_eq_true hk37]; try rfl) ?_
      refine RunR.sil hU [] 5 16 [0, 4, 9, 10, 52] [(0, .slice A xs.length c), (4, .bool false), (9, .slice A25 zs27.length c26), (10, .bool ok28), (52, .bool (ok7 == ok17))] ((True) ∧ (True) ∧ (True) ∧ (True) ∧ (True) ∧ True) rfl (by kernel_rfl) ⟨trivial, trivial, trivial, trivial, trivial, trivial⟩ ?_
      refine RunR.env [0, 4, 9, 10, 52] [(0, .slice A xs.length c), (4, .bool false), (9, .slice A25 zs27.length c26), (10, .bool ok28), (52, .bool (ok7 == ok17))] (by kernel_rfl) ?_
      have hk38 : (ok7 == ok17) = true := by rw [un_ok (ok := ok7) (ok' := ok17) (by assumption) (by assumption)]; exact beq_self_eq_true _
      refine RunR.enveq [(0, .slice A xs.length c), (4, .bool false), (9, .slice A25 zs27.length c26), (10, .bool ok28), (52, .bool true)] (by rw [hk38]; try rfl) ?_
      refine RunR.sil hU [] 3 19 [0, 4, 9, 55] [(0, .slice A xs.length c), (4, .bool false), (9, .slice A25 zs27.length c26), (55, .bool ok28)] ((True) ∧ (True) ∧ (True) ∧ True) rfl (by kernel_rfl) ⟨trivial, trivial, trivial, trivial⟩ ?_
      refine RunR.env [0, 4, 9, 55] [(0, .slice A xs.length c), (4, .bool false), (9, .slice A25 zs27.length c26), (55, .bool ok28)] (by kernel_rfl) ?_
      have hk39 : ok28 = true := by exact (un_told (by assumption) (by rw [sb_str (hexl_in _)]; exact unhex_hex _ hx)).1
      refine RunR.enveq [(0, .slice A xs.length c), (4, .bool false), (9, .slice A25 zs27.length c26), (55, .bool true)] (by rw [hk39]; try rfl) ?_
      refine RunR.sil hU [] 2 21 [4, 55, 56, 57] [(4, .bool false), (55, .bool true), (56, .slice A25 zs27.length c26), (57, .slice A xs.length c)] ((True) ∧ (True) ∧ True) rfl (by kernel_rfl) ⟨trivial, trivial, trivial⟩ ?_
      refine RunR.step (dst := some 58) (op := .call { callee := .value (.func 18), args := #[.tmp 56, .tmp 57], argTypes := #[22, 22] }) (by kernel_rfl) (Step.call 18 [.slice A25 zs27.length c26, .slice A xs.length c] (by kernel_rfl) (by kernel_rfl) [] [vw A25 (nums .u8 zs27), vw A (nums .u8 xs)] [row 5 1 (.slice A25 zs27.length c26) zs27.length (nums .u8 zs27), row 5 1 (.slice A14 zs16.length c15) zs16.length (nums .u8 zs16), row 5 1 (.slice A4 zs6.length c5) zs6.length (nums .u8 zs6), vw A (nums .u8 xs)] (r_Equal_spec A25 c26 zs27 A c xs zs27.length xs.length hp31 (by first | assumption | omega | (simp only [List.length_append, List.length_cons, List.length_nil, List.length_set, List.length_replicate, List.length_take, List.length_drop]; omega) | (simp only [fits] at *; omega) | (simp only [List.length_append, List.length_cons, List.length_nil, List.length_set, List.length_replicate, List.length_take, List.length_drop] at *; omega) | (simp; done) | decide) hx (by first | assumption | omega | (simp only [List.length_append, List.length_cons, List.length_nil, List.length_set, List.length_replicate, List.length_take, List.length_drop]; omega) | (simp only [fits] at *; omega) | (simp only [List.length_append, List.length_cons, List.length_nil, List.length_set, List.length_replicate, List.length_take, List.length_drop] at *; omega) | (simp; done) | decide) (by first | rfl | assumption | omega | (simp only [List.length_append, List.length_cons, List.length_nil, List.length_set, List.length_replicate, List.length_take, List.length_drop]; omega) | (simp; done)) (by first | rfl | assumption | omega | (simp only [List.length_append, List.length_cons, List.length_nil, List.length_set, List.length_replicate, List.length_take, List.length_drop]; omega) | (simp; done))) [] (by kernel_rfl) (((Lend.nil _).tells 3 (vw A (nums .u8 xs)) A (nums .u8 xs) (by kernel_rfl) (tells_vw _ _)).tells 0 (row 5 1 (.slice A25 zs27.length c26) zs27.length (nums .u8 zs27)) A25 (nums .u8 zs27) (by kernel_rfl) (tells_row _ _ _ _ _ _)) ?_)
      rintro _ _ ⟨rfl, rfl⟩
      refine RunR.sil hU [] 2 24 [4] [(4, .bool (decide (zs27 = xs)))] ((True) ∧ (True) ∧ True) rfl (by kernel_rfl) ⟨trivial, trivial, trivial⟩ ?_
      refine RunR.env [4] [(4, .bool (decide (zs27 = xs)))] (by kernel_rfl) ?_
      have hk40 : (zs27 = xs) := by exact (un_told (by assumption) (by rw [sb_str (hexl_in _)]; exact unhex_hex _ hx)).2
      refine RunR.enveq [(4, .bool true)] (by rw [decide_eq_true hk40]; try rfl) ?_
      refine RunR.done (by kernel_rfl) ?_
      refine kseq_n ?_
      refine RunC.ret ?_
      refine kret_r [.bool true] [] [] ⟨rfl, trivial⟩ (by kernel_rfl) rfl ⟨rfl, rfl⟩
end Go.Proofs.Ytcpohiegijpghaa.LWordHex
