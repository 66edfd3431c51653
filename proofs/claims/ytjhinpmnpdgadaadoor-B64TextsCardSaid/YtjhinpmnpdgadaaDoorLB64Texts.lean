/- The law B64Texts returns true whatever it is handed: its walk, on the contracts of what it calls. -/
import Derived.Test.YtjhinpmnpdgadaaDoorBTPure
import Derived.Test.YtjhinpmnpdgadaaDoorProg
import Derived.Test.YtjhinpmnpdgadaaDoorX1
import Derived.Test.YtjhinpmnpdgadaaDoorX2
import Derived.Test.YtjhinpmnpdgadaaDoorX3
import Derived.Test.YtjhinpmnpdgadaaDoorX4
import Derived.Test.YtjhinpmnpdgadaaDoorX5
import Derived.Test.YtjhinpmnpdgadaaDoorX6
import Derived.Test.YtjhinpmnpdgadaaDoorX7
import Derived.Test.YtjhinpmnpdgadaaDoorX8
import Derived.Test.YtjhinpmnpdgadaaDoorX9
namespace Go.Proofs.YtjhinpmnpdgadaaDoor.LB64Texts
open Go Go.Proofs.YtjhinpmnpdgadaaDoor.SL Go.Proofs.YtjhinpmnpdgadaaDoor.SL.W Go.Proofs.YtjhinpmnpdgadaaDoor.SL.Y Go.Proofs.YtjhinpmnpdgadaaDoor.SL.B Go.Proofs.YtjhinpmnpdgadaaDoor.X1 Go.Proofs.YtjhinpmnpdgadaaDoor.X2 Go.Proofs.YtjhinpmnpdgadaaDoor.X3 Go.Proofs.YtjhinpmnpdgadaaDoor.X4 Go.Proofs.YtjhinpmnpdgadaaDoor.X5 Go.Proofs.YtjhinpmnpdgadaaDoor.X6 Go.Proofs.YtjhinpmnpdgadaaDoor.X7 Go.Proofs.YtjhinpmnpdgadaaDoor.X8 Go.Proofs.YtjhinpmnpdgadaaDoor.X9
set_option linter.unusedVariables false
set_option linter.unusedSimpArgs false
set_option maxRecDepth 100000
set_option maxHeartbeats 40000000
def U : Tab where
  und := [(3, .int .i64), (5, .int .u8), (9, .string), (22, .slice 5)]
  fld := []
  sz := [(3, 1), (5, 1), (9, 1), (22, 1)]
  ti := [(3, (1, 8, .int .i64 0)), (5, (1, 1, .int .u8 0)), (9, (1, 16, .string ⟨#[]⟩)), (22, (1, 24, .slice none 0 0))]
  bld := []

theorem hU : U.OK Tryd.prog where
  und := by
    intro p hp
    simp only [U, List.mem_cons, List.not_mem_nil, or_false] at hp
    rcases hp with rfl | rfl | rfl | rfl
    · exact Tryd.underlying3
    · exact Tryd.underlying5
    · exact Tryd.underlying9
    · exact Tryd.underlying22
  fld := by
    intro p hp; cases hp
  sz := by
    intro p hp
    simp only [U, List.mem_cons, List.not_mem_nil, or_false] at hp
    rcases hp with rfl | rfl | rfl | rfl
    · exact ⟨Tryd.prog.types[3]!, by kernel_rfl, by kernel_rfl⟩
    · exact ⟨Tryd.prog.types[5]!, by kernel_rfl, by kernel_rfl⟩
    · exact ⟨Tryd.prog.types[9]!, by kernel_rfl, by kernel_rfl⟩
    · exact ⟨Tryd.prog.types[22]!, by kernel_rfl, by kernel_rfl⟩
  ti := by
    intro p hp
    simp only [U, List.mem_cons, List.not_mem_nil, or_false] at hp
    rcases hp with rfl | rfl | rfl | rfl
    · exact ⟨Tryd.prog.types[3]!, by kernel_rfl, by kernel_rfl, by kernel_rfl, by kernel_rfl⟩
    · exact ⟨Tryd.prog.types[5]!, by kernel_rfl, by kernel_rfl, by kernel_rfl, by kernel_rfl⟩
    · exact ⟨Tryd.prog.types[9]!, by kernel_rfl, by kernel_rfl, by kernel_rfl, by kernel_rfl⟩
    · exact ⟨Tryd.prog.types[22]!, by kernel_rfl, by kernel_rfl, by kernel_rfl, by kernel_rfl⟩
  bld := by
    intro p hp; cases hp
  mixed := by kernel_rfl

theorem l14_B64Texts_spec (A : Option Addr) (c : Nat) (xs : List Int) (l_xs : Nat) (hIxs : In .u8 xs) (hCxs : xs.length ≤ c) (hBxs : xs.length ≤ 140737488351232) (hl_xs : xs.length = l_xs) :
    CallsS Tryd.prog 3 [.slice A l_xs c] [vw A (nums .u8 xs)] (fun r D => r = .bool true ∧ D = []) := by
  subst hl_xs
  refine CallsS.enter hU Tryd.f3 _ [.tmp 2] 40 Tryd.func3 rfl (by decide) rfl rfl (by kernel_rfl) fun w0 W => ?_
  have hsl := sb_len (strOfNums (enc xs)); have hsz := strOfNums_size (enc xs); have hel := enc_len xs
  refine RunC.know (p := 0 < xs.length → Option.isSome A = true) (fun _ _ w hs => vw_some hs 0 rfl (by first | (simp [nums_length]; done) | exact dosV_len _ | exact bls_len _ | exact chV_len _)) (fun hA1 => ?_)
  refine RunC.seq ?_
  refine RunC.region ?_
  refine RunR.sil hU [] 1 1 [0, 2] [(0, .slice A xs.length c), (2, .bool false)] ((True) ∧ True) rfl (by kernel_rfl) ⟨trivial, trivial⟩ ?_
  refine RunR.done (by kernel_rfl) ?_
  refine kseq_n ?_
  refine RunC.seq ?_
  refine RunC.seq ?_
  refine RunC.region ?_
  refine RunR.step (dst := some 6) (op := .call { callee := .value (.func 11), args := #[], argTypes := #[] }) (by kernel_rfl) (Step.call 11 [] (by kernel_rfl) (by kernel_rfl) [] [] [vw A (nums .u8 xs)] (l14_awake_spec) [] (by kernel_rfl) (Lend.nil _) ?_)
  rintro _ _ ⟨rfl, rfl⟩
  refine RunR.sil hU [] 1 2 [0, 2, 7] [(0, .slice A xs.length c), (2, .bool false), (7, .bool false)] ((True) ∧ True) rfl (by kernel_rfl) ⟨trivial, trivial⟩ ?_
  refine RunR.done (by kernel_rfl) ?_
  refine kseq_n ?_
  refine RunC.cond (b := false) (by kernel_rfl) (fun h => by cases h) (fun _ => ?_)
  refine RunC.skip ?_
  refine kseq_n ?_
  refine RunC.seq ?_
  refine RunC.seq ?_
  refine RunC.region ?_
  refine RunR.sil hU [] 3 3 [0, 2, 10] [(0, .slice A xs.length c), (2, .bool false), (10, .bool (decide (((xs.length : Nat) : Int) > 4096)))] ((True) ∧ (True) ∧ (True) ∧ True) rfl (by kernel_rfl) ⟨trivial, trivial, trivial, trivial⟩ ?_
  refine RunR.done (by kernel_rfl) ?_
  refine kseq_n ?_
  refine RunC.condp (((xs.length : Nat) : Int) > 4096) (by kernel_rfl) (fun h2 => ?_) (fun h2 => ?_)
  · skip
    refine RunC.seq ?_
    refine RunC.region ?_
    refine RunR.sil hU [] 1 1 [0, 2] [(0, .slice A xs.length c), (2, .bool true)] ((True) ∧ True) rfl (by kernel_rfl) ⟨trivial, trivial⟩ ?_
    refine RunR.done (by kernel_rfl) ?_
    refine kseq_n ?_
    refine RunC.ret ?_
    refine kseq_r ?_
    refine kret_r [.bool true] [] [] ⟨rfl, trivial⟩ (by kernel_rfl) rfl ⟨rfl, rfl⟩
  · skip
    refine RunC.skip ?_
    refine kseq_n ?_
    refine RunC.seq ?_
    refine RunC.region ?_
    refine RunR.sil hU [] 1 1 [0, 2, 11] [(0, .slice A xs.length c), (2, .bool false), (11, .slice A xs.length c)] ((True) ∧ True) rfl (by kernel_rfl) ⟨trivial, trivial⟩ ?_
    refine RunR.step (dst := some 12) (op := .call { callee := .value (.func 12), args := #[.tmp 11], argTypes := #[22] }) (by kernel_rfl) (Step.call 12 [.slice A xs.length c] (by kernel_rfl) (by kernel_rfl) [] [vw A (nums .u8 xs)] [vw A (nums .u8 xs)] (b_Text_spec A c xs xs.length hIxs (by first | assumption | omega | (simp only [List.length_append, List.length_cons, List.length_nil, List.length_set, List.length_replicate, List.length_take, List.length_drop]; omega) | (simp only [fits] at *; omega) | (simp only [List.length_append, List.length_cons, List.length_nil, List.length_set, List.length_replicate, List.length_take, List.length_drop] at *; omega) | (simp; done) | decide) (by first | assumption | omega | (simp only [List.length_append, List.length_cons, List.length_nil, List.length_set, List.length_replicate, List.length_take, List.length_drop]; omega) | (simp only [fits] at *; omega) | (simp only [List.length_append, List.length_cons, List.length_nil, List.length_set, List.length_replicate, List.length_take, List.length_drop] at *; omega) | (simp; done) | decide) (by first | rfl | assumption | omega | (simp only [List.length_append, List.length_cons, List.length_nil, List.length_set, List.length_replicate, List.length_take, List.length_drop]; omega) | (simp; done))) [] (by kernel_rfl) ((Lend.nil _).tells 0 (vw A (nums .u8 xs)) A (nums .u8 xs) (by kernel_rfl) (tells_vw _ _)) ?_)
    rintro _ _ ⟨rfl, rfl⟩
    refine RunR.sil hU [] 1 3 [0, 2, 3] [(0, .slice A xs.length c), (2, .bool false), (3, .string (strOfNums (enc xs)))] ((True) ∧ True) rfl (by kernel_rfl) ⟨trivial, trivial⟩ ?_
    refine RunR.done (by kernel_rfl) ?_
    refine kseq_n ?_
    refine RunC.seq ?_
    refine RunC.region ?_
    refine RunR.sil hU [] 1 1 [0, 2, 3, 14] [(0, .slice A xs.length c), (2, .bool false), (3, .string (strOfNums (enc xs))), (14, .string (strOfNums (enc xs)))] ((True) ∧ True) rfl (by kernel_rfl) ⟨trivial, trivial⟩ ?_
    refine RunR.step (dst := some 15) (op := .call { callee := .value (.func 13), args := #[.tmp 14], argTypes := #[9] }) (by kernel_rfl) (Step.call 13 [.string (strOfNums (enc xs))] (by kernel_rfl) (by kernel_rfl) [] [] [vw A (nums .u8 xs)] (b_Bytes_spec (strOfNums (enc xs)) (by first | assumption | omega | (simp only [List.length_append, List.length_cons, List.length_nil, List.length_set, List.length_replicate, List.length_take, List.length_drop]; omega) | (simp only [fits] at *; omega) | (simp only [List.length_append, List.length_cons, List.length_nil, List.length_set, List.length_replicate, List.length_take, List.length_drop] at *; omega) | (simp; done) | decide)) [] (by kernel_rfl) (Lend.nil _) ?_)
    rintro _ _ ⟨A93, c94, zs5, ok6, rfl, rfl, hp7, hp8, hp9, hp10, hp11, hp12⟩
    refine RunR.sil hU [] 5 7 [0, 2, 3, 4, 5] [(0, .slice A xs.length c), (2, .bool false), (3, .string (strOfNums (enc xs))), (4, .slice A93 zs5.length c94), (5, .bool ok6)] ((True) ∧ (True) ∧ (True) ∧ (True) ∧ (True) ∧ True) rfl (by kernel_rfl) ⟨trivial, trivial, trivial, trivial, trivial, trivial⟩ ?_
    refine RunR.env [0, 2, 3, 4, 5] [(0, .slice A xs.length c), (2, .bool false), (3, .string (strOfNums (enc xs))), (4, .slice A93 zs5.length c94), (5, .bool ok6)] (by kernel_rfl) ?_
    have hk13 : ok6 = true := by exact (texts_ok hIxs hp7).1
    refine RunR.enveq [(0, .slice A xs.length c), (2, .bool false), (3, .string (strOfNums (enc xs))), (4, .slice A93 zs5.length c94), (5, .bool true)] (by rw [hk13]; try rfl) ?_
    refine RunR.done (by kernel_rfl) ?_
    refine kseq_n ?_
    refine RunC.seq ?_
    refine RunC.region ?_
    refine RunR.sil hU [] 2 2 [0, 2, 3, 4, 5, 18, 19] [(0, .slice A xs.length c), (2, .bool false), (3, .string (strOfNums (enc xs))), (4, .slice A93 zs5.length c94), (5, .bool true), (18, .string (strOfNums (enc xs))), (19, .slice A xs.length c)] ((True) ∧ (True) ∧ True) rfl (by kernel_rfl) ⟨trivial, trivial, trivial⟩ ?_
    refine RunR.step (dst := some 20) (op := .call { callee := .value (.func 14), args := #[.tmp 19], argTypes := #[22] }) (by kernel_rfl) (Step.call 14 [.slice A xs.length c] (by kernel_rfl) (by kernel_rfl) [] [vw A (nums .u8 xs)] [row 5 1 (.slice A93 zs5.length c94) zs5.length (nums .u8 zs5), vw A (nums .u8 xs)] (br_Text_spec A c xs xs.length hIxs (by first | assumption | omega | (simp only [List.length_append, List.length_cons, List.length_nil, List.length_set, List.length_replicate, List.length_take, List.length_drop]; omega) | (simp only [fits] at *; omega) | (simp only [List.length_append, List.length_cons, List.length_nil, List.length_set, List.length_replicate, List.length_take, List.length_drop] at *; omega) | (simp; done) | decide) (by first | assumption | omega | (simp only [List.length_append, List.length_cons, List.length_nil, List.length_set, List.length_replicate, List.length_take, List.length_drop]; omega) | (simp only [fits] at *; omega) | (simp only [List.length_append, List.length_cons, List.length_nil, List.length_set, List.length_replicate, List.length_take, List.length_drop] at *; omega) | (simp; done) | decide) (by first | rfl | assumption | omega | (simp only [List.length_append, List.length_cons, List.length_nil, List.length_set, List.length_replicate, List.length_take, List.length_drop]; omega) | (simp; done))) [] (by kernel_rfl) ((Lend.nil _).tells 1 (vw A (nums .u8 xs)) A (nums .u8 xs) (by kernel_rfl) (tells_vw _ _)) ?_)
    rintro _ _ ⟨rfl, rfl⟩
    refine RunR.sil hU [] 2 5 [0, 2, 3, 4, 5, 22] [(0, .slice A xs.length c), (2, .bool false), (3, .string (strOfNums (enc xs))), (4, .slice A93 zs5.length c94), (5, .bool true), (22, .bool (decide ((strOfNums (enc xs)) = (strOfNums (enc xs)))))] ((True) ∧ (True) ∧ True) rfl (by kernel_rfl) ⟨trivial, trivial, trivial⟩ ?_
    refine RunR.env [0, 2, 3, 4, 5, 22] [(0, .slice A xs.length c), (2, .bool false), (3, .string (strOfNums (enc xs))), (4, .slice A93 zs5.length c94), (5, .bool true), (22, .bool (decide ((strOfNums (enc xs)) = (strOfNums (enc xs)))))] (by kernel_rfl) ?_
    have hk14 : ((strOfNums (enc xs)) = (strOfNums (enc xs))) := by rfl
    refine RunR.enveq [(0, .slice A xs.length c), (2, .bool false), (3, .string (strOfNums (enc xs))), (4, .slice A93 zs5.length c94), (5, .bool true), (22, .bool true)] (by rw [decide_eq_true hk14]; try rfl) ?_
    refine RunR.sil hU [] 5 10 [0, 2, 3, 25, 26, 27] [(0, .slice A xs.length c), (2, .bool false), (3, .string (strOfNums (enc xs))), (25, .bool true), (26, .slice A93 zs5.length c94), (27, .slice A xs.length c)] ((True) ∧ (True) ∧ (True) ∧ (True) ∧ (True) ∧ True) rfl (by kernel_rfl) ⟨trivial, trivial, trivial, trivial, trivial, trivial⟩ ?_
    refine RunR.step (dst := some 28) (op := .call { callee := .value (.func 15), args := #[.tmp 26, .tmp 27], argTypes := #[22, 22] }) (by kernel_rfl) (Step.call 15 [.slice A93 zs5.length c94, .slice A xs.length c] (by kernel_rfl) (by kernel_rfl) [] [vw A93 (nums .u8 zs5), vw A (nums .u8 xs)] [row 5 1 (.slice A93 zs5.length c94) zs5.length (nums .u8 zs5), vw A (nums .u8 xs)] (r_Equal_spec A93 c94 zs5 A c xs zs5.length xs.length hp9 (by omega) hIxs (by first | assumption | omega | (simp only [List.length_append, List.length_cons, List.length_nil, List.length_set, List.length_replicate, List.length_take, List.length_drop]; omega) | (simp only [fits] at *; omega) | (simp only [List.length_append, List.length_cons, List.length_nil, List.length_set, List.length_replicate, List.length_take, List.length_drop] at *; omega) | (simp; done) | decide) (by first | rfl | assumption | omega | (simp only [List.length_append, List.length_cons, List.length_nil, List.length_set, List.length_replicate, List.length_take, List.length_drop]; omega) | (simp; done)) (by first | rfl | assumption | omega | (simp only [List.length_append, List.length_cons, List.length_nil, List.length_set, List.length_replicate, List.length_take, List.length_drop]; omega) | (simp; done))) [] (by kernel_rfl) (((Lend.nil _).tells 1 (vw A (nums .u8 xs)) A (nums .u8 xs) (by kernel_rfl) (tells_vw _ _)).tells 0 (row 5 1 (.slice A93 zs5.length c94) zs5.length (nums .u8 zs5)) A93 (nums .u8 zs5) (by kernel_rfl) (tells_row _ _ _ _ _ _)) ?_)
    rintro _ _ ⟨rfl, rfl⟩
    refine RunR.sil hU [] 2 13 [0, 2, 3, 30] [(0, .slice A xs.length c), (2, .bool false), (3, .string (strOfNums (enc xs))), (30, .bool (decide (zs5 = xs)))] ((True) ∧ (True) ∧ True) rfl (by kernel_rfl) ⟨trivial, trivial, trivial⟩ ?_
    refine RunR.env [0, 2, 3, 30] [(0, .slice A xs.length c), (2, .bool false), (3, .string (strOfNums (enc xs))), (30, .bool (decide (zs5 = xs)))] (by kernel_rfl) ?_
    have hk15 : (zs5 = xs) := by exact (texts_ok hIxs hp7).2
    refine RunR.enveq [(0, .slice A xs.length c), (2, .bool false), (3, .string (strOfNums (enc xs))), (30, .bool true)] (by rw [decide_eq_true hk15]; try rfl) ?_
    refine RunR.sil hU [17, 18, 19] 10 23 [2] [(2, .bool (decide (((strOfNums (enc xs) : ByteArray).size : Int) = (((((xs.length : Nat) : Int) + 2) / (3 : Int)) * 4))))] ((True) ∧ (True) ∧ (True) ∧ (True) ∧ (-9223372036854775808 ≤ (((xs.length : Nat) : Int) + 2) ∧ (((xs.length : Nat) : Int) + 2) < 9223372036854775808) ∧ (0 ≤ (((xs.length : Nat) : Int) + 2) ∧ 0 < (3 : Int) ∧ -9223372036854775808 ≤ ((((xs.length : Nat) : Int) + 2) / (3 : Int)) ∧ ((((xs.length : Nat) : Int) + 2) / (3 : Int)) < 9223372036854775808) ∧ (-9223372036854775808 ≤ (((((xs.length : Nat) : Int) + 2) / (3 : Int)) * 4) ∧ (((((xs.length : Nat) : Int) + 2) / (3 : Int)) * 4) < 9223372036854775808) ∧ (True) ∧ (True) ∧ (True) ∧ True) rfl (by kernel_rfl) ⟨trivial, trivial, trivial, trivial, (by omega), (by omega), (by omega), trivial, trivial, trivial, trivial⟩ ?_
    refine RunR.env [2] [(2, .bool (decide (((strOfNums (enc xs) : ByteArray).size : Int) = (((((xs.length : Nat) : Int) + 2) / (3 : Int)) * 4))))] (by kernel_rfl) ?_
    have hk16 : (((strOfNums (enc xs) : ByteArray).size : Int) = (((((xs.length : Nat) : Int) + 2) / (3 : Int)) * 4)) := by omega
    refine RunR.enveq [(2, .bool true)] (by rw [decide_eq_true hk16]; try rfl) ?_
    refine RunR.done (by kernel_rfl) ?_
    refine kseq_n ?_
    refine RunC.ret ?_
    refine kret_r [.bool true] [] [] ⟨rfl, trivial⟩ (by kernel_rfl) rfl ⟨rfl, rfl⟩
end Go.Proofs.YtjhinpmnpdgadaaDoor.LB64Texts
