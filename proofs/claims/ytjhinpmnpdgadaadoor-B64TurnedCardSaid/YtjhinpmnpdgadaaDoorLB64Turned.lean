/- The law B64Turned returns true whatever it is handed: its walk, on the contracts of what it calls. -/
import Derived.Test.YtjhinpmnpdgadaaDoorBRPure
import Derived.Test.YtjhinpmnpdgadaaDoorProg
import Derived.Test.YtjhinpmnpdgadaaDoorX1
import Derived.Test.YtjhinpmnpdgadaaDoorX2
import Derived.Test.YtjhinpmnpdgadaaDoorX3
import Derived.Test.YtjhinpmnpdgadaaDoorX4
import Derived.Test.YtjhinpmnpdgadaaDoorX5
import Derived.Test.YtjhinpmnpdgadaaDoorX6
namespace Go.Proofs.YtjhinpmnpdgadaaDoor.LB64Turned
open Go Go.Proofs.YtjhinpmnpdgadaaDoor.SL Go.Proofs.YtjhinpmnpdgadaaDoor.SL.W Go.Proofs.YtjhinpmnpdgadaaDoor.SL.Y Go.Proofs.YtjhinpmnpdgadaaDoor.SL.B Go.Proofs.YtjhinpmnpdgadaaDoor.X1 Go.Proofs.YtjhinpmnpdgadaaDoor.X2 Go.Proofs.YtjhinpmnpdgadaaDoor.X3 Go.Proofs.YtjhinpmnpdgadaaDoor.X4 Go.Proofs.YtjhinpmnpdgadaaDoor.X5 Go.Proofs.YtjhinpmnpdgadaaDoor.X6
set_option linter.unusedVariables false
set_option linter.unusedSimpArgs false
set_option maxRecDepth 100000
set_option maxHeartbeats 40000000
def U : Tab where
  und := [(3, .int .i64), (5, .int .u8), (9, .string), (22, .slice 5), (30, .int .u16)]
  fld := []
  sz := [(3, 1), (5, 1), (9, 1), (22, 1), (30, 1)]
  ti := [(3, (1, 8, .int .i64 0)), (5, (1, 1, .int .u8 0)), (9, (1, 16, .string ⟨#[]⟩)), (22, (1, 24, .slice none 0 0)), (30, (1, 2, .int .u16 0))]
  bld := []

theorem hU : U.OK Tryd.prog where
  und := by
    intro p hp
    simp only [U, List.mem_cons, List.not_mem_nil, or_false] at hp
    rcases hp with rfl | rfl | rfl | rfl | rfl
    · exact Tryd.underlying3
    · exact Tryd.underlying5
    · exact Tryd.underlying9
    · exact Tryd.underlying22
    · exact Tryd.underlying30
  fld := by
    intro p hp; cases hp
  sz := by
    intro p hp
    simp only [U, List.mem_cons, List.not_mem_nil, or_false] at hp
    rcases hp with rfl | rfl | rfl | rfl | rfl
    · exact ⟨Tryd.prog.types[3]!, by kernel_rfl, by kernel_rfl⟩
    · exact ⟨Tryd.prog.types[5]!, by kernel_rfl, by kernel_rfl⟩
    · exact ⟨Tryd.prog.types[9]!, by kernel_rfl, by kernel_rfl⟩
    · exact ⟨Tryd.prog.types[22]!, by kernel_rfl, by kernel_rfl⟩
    · exact ⟨Tryd.prog.types[30]!, by kernel_rfl, by kernel_rfl⟩
  ti := by
    intro p hp
    simp only [U, List.mem_cons, List.not_mem_nil, or_false] at hp
    rcases hp with rfl | rfl | rfl | rfl | rfl
    · exact ⟨Tryd.prog.types[3]!, by kernel_rfl, by kernel_rfl, by kernel_rfl, by kernel_rfl⟩
    · exact ⟨Tryd.prog.types[5]!, by kernel_rfl, by kernel_rfl, by kernel_rfl, by kernel_rfl⟩
    · exact ⟨Tryd.prog.types[9]!, by kernel_rfl, by kernel_rfl, by kernel_rfl, by kernel_rfl⟩
    · exact ⟨Tryd.prog.types[22]!, by kernel_rfl, by kernel_rfl, by kernel_rfl, by kernel_rfl⟩
    · exact ⟨Tryd.prog.types[30]!, by kernel_rfl, by kernel_rfl, by kernel_rfl, by kernel_rfl⟩
  bld := by
    intro p hp; cases hp
  mixed := by kernel_rfl

theorem l14_B64Turned_spec (A : Option Addr) (c : Nat) (xs : List Int) (n : Int) (l : Int) (l_xs : Nat) (hIxs : In .u8 xs) (hCxs : xs.length ≤ c) (hBxs : xs.length ≤ 140737488351232) (hn : fits .u16 n) (hl : fits .u8 l) (hl_xs : xs.length = l_xs) :
    CallsS Tryd.prog 6 [.slice A l_xs c, .int .u16 n, .int .u8 l] [vw A (nums .u8 xs)] (fun r D => r = .bool true ∧ D = []) := by
  subst hl_xs
  refine CallsS.enter hU Tryd.f6 _ [.tmp 6] 69 Tryd.func6 rfl (by decide) rfl rfl (by kernel_rfl) fun w0 W => ?_
  have hn2 := hn; simp only [fits] at hn2; have hl2 := hl; simp only [fits] at hl2; have hsl := sb_len (strOfNums (enc xs)); have hsz := strOfNums_size (enc xs); have hel := enc_len xs
  refine RunC.know (p := 0 < xs.length → Option.isSome A = true) (fun _ _ w hs => vw_some hs 0 rfl (by first | (simp [nums_length]; done) | exact dosV_len _ | exact bls_len _ | exact chV_len _)) (fun hA1 => ?_)
  refine RunC.seq ?_
  refine RunC.region ?_
  refine RunR.sil hU [] 1 1 [0, 1, 2, 6] [(0, .slice A xs.length c), (1, .int .u16 n), (2, .int .u8 l), (6, .bool false)] ((True) ∧ True) rfl (by kernel_rfl) ⟨trivial, trivial⟩ ?_
  refine RunR.done (by kernel_rfl) ?_
  refine kseq_n ?_
  refine RunC.seq ?_
  refine RunC.seq ?_
  refine RunC.region ?_
  refine RunR.step (dst := some 12) (op := .call { callee := .value (.func 11), args := #[], argTypes := #[] }) (by kernel_rfl) (Step.call 11 [] (by kernel_rfl) (by kernel_rfl) [] [] [vw A (nums .u8 xs)] (l14_awake_spec) [] (by kernel_rfl) (Lend.nil _) ?_)
  rintro _ _ ⟨rfl, rfl⟩
  refine RunR.sil hU [] 1 2 [0, 1, 2, 6, 13] [(0, .slice A xs.length c), (1, .int .u16 n), (2, .int .u8 l), (6, .bool false), (13, .bool false)] ((True) ∧ True) rfl (by kernel_rfl) ⟨trivial, trivial⟩ ?_
  refine RunR.done (by kernel_rfl) ?_
  refine kseq_n ?_
  refine RunC.cond (b := false) (by kernel_rfl) (fun h => by cases h) (fun _ => ?_)
  refine RunC.skip ?_
  refine kseq_n ?_
  refine RunC.seq ?_
  refine RunC.seq ?_
  refine RunC.region ?_
  refine RunR.sil hU [] 4 4 [0, 1, 2, 6, 17] [(0, .slice A xs.length c), (1, .int .u16 n), (2, .int .u8 l), (6, .bool false), (17, .bool (decide (((xs.length : Nat) : Int) > 2048)))] ((True) ∧ (True) ∧ (True) ∧ (True) ∧ True) rfl (by kernel_rfl) ⟨trivial, trivial, trivial, trivial, trivial⟩ ?_
  refine RunR.env [0, 1, 2, 6, 17] [(0, .slice A xs.length c), (1, .int .u16 n), (2, .int .u8 l), (6, .bool false), (17, .bool (decide (((xs.length : Nat) : Int) > 2048)))] (by kernel_rfl) ?_
  by_cases h2 : ((xs.length : Nat) : Int) > 2048
  · skip
    refine RunR.enveq [(0, .slice A xs.length c), (1, .int .u16 n), (2, .int .u8 l), (6, .bool false), (17, .bool true)] (by rw [decide_eq_true h2]; try rfl) ?_
    refine RunR.sil hU [] 4 8 [0, 1, 2, 6, 21] [(0, .slice A xs.length c), (1, .int .u16 n), (2, .int .u8 l), (6, .bool false), (21, .bool true)] ((True) ∧ True) rfl (by kernel_rfl) ⟨trivial, trivial⟩ ?_
    refine RunR.done (by kernel_rfl) ?_
    refine kseq_n ?_
    refine RunC.cond (b := true) (by kernel_rfl) (fun _ => ?_) (fun h => by cases h)
    refine RunC.seq ?_
    refine RunC.region ?_
    refine RunR.sil hU [] 1 1 [0, 1, 2, 6] [(0, .slice A xs.length c), (1, .int .u16 n), (2, .int .u8 l), (6, .bool true)] ((True) ∧ True) rfl (by kernel_rfl) ⟨trivial, trivial⟩ ?_
    refine RunR.done (by kernel_rfl) ?_
    refine kseq_n ?_
    refine RunC.ret ?_
    refine kseq_r ?_
    refine kret_r [.bool true] [] [] ⟨rfl, trivial⟩ (by kernel_rfl) rfl ⟨rfl, rfl⟩
  · skip
    refine RunR.enveq [(0, .slice A xs.length c), (1, .int .u16 n), (2, .int .u8 l), (6, .bool false), (17, .bool false)] (by rw [decide_eq_false h2]; try rfl) ?_
    refine RunR.sil hU [] 4 8 [0, 1, 2, 6, 21] [(0, .slice A xs.length c), (1, .int .u16 n), (2, .int .u8 l), (6, .bool false), (21, .bool (decide (((xs.length : Nat) : Int) = 0)))] ((True) ∧ (True) ∧ (True) ∧ (True) ∧ True) rfl (by kernel_rfl) ⟨trivial, trivial, trivial, trivial, trivial⟩ ?_
    refine RunR.done (by kernel_rfl) ?_
    refine kseq_n ?_
    refine RunC.condp (((xs.length : Nat) : Int) = 0) (by kernel_rfl) (fun h3 => ?_) (fun h3 => ?_)
    · skip
      refine RunC.seq ?_
      refine RunC.region ?_
      refine RunR.sil hU [] 1 1 [0, 1, 2, 6] [(0, .slice A xs.length c), (1, .int .u16 n), (2, .int .u8 l), (6, .bool true)] ((True) ∧ True) rfl (by kernel_rfl) ⟨trivial, trivial⟩ ?_
      refine RunR.done (by kernel_rfl) ?_
      refine kseq_n ?_
      refine RunC.ret ?_
      refine kseq_r ?_
      refine kret_r [.bool true] [] [] ⟨rfl, trivial⟩ (by kernel_rfl) rfl ⟨rfl, rfl⟩
    · skip
      refine RunC.skip ?_
      refine kseq_n ?_
      refine RunC.seq ?_
      refine RunC.region ?_
      refine RunR.sil hU [] 1 1 [0, 1, 2, 6, 22] [(0, .slice A xs.length c), (1, .int .u16 n), (2, .int .u8 l), (6, .bool false), (22, .slice A xs.length c)] ((True) ∧ True) rfl (by kernel_rfl) ⟨trivial, trivial⟩ ?_
      refine RunR.step (dst := some 23) (op := .call { callee := .value (.func 12), args := #[.tmp 22], argTypes := #[22] }) (by kernel_rfl) (Step.call 12 [.slice A xs.length c] (by kernel_rfl) (by kernel_rfl) [] [vw A (nums .u8 xs)] [vw A (nums .u8 xs)] (b_Text_spec A c xs xs.length hIxs (by first | assumption | omega | (simp only [List.length_append, List.length_cons, List.length_nil, List.length_set, List.length_replicate, List.length_take, List.length_drop]; omega) | (simp only [fits] at *; omega) | (simp only [List.length_append, List.length_cons, List.length_nil, List.length_set, List.length_replicate, List.length_take, List.length_drop] at *; omega) | (simp; done) | decide) (by first | assumption | omega | (simp only [List.length_append, List.length_cons, List.length_nil, List.length_set, List.length_replicate, List.length_take, List.length_drop]; omega) | (simp only [fits] at *; omega) | (simp only [List.length_append, List.length_cons, List.length_nil, List.length_set, List.length_replicate, List.length_take, List.length_drop] at *; omega) | (simp; done) | decide) (by first | rfl | assumption | omega | (simp only [List.length_append, List.length_cons, List.length_nil, List.length_set, List.length_replicate, List.length_take, List.length_drop]; omega) | (simp; done))) [] (by kernel_rfl) ((Lend.nil _).tells 0 (vw A (nums .u8 xs)) A (nums .u8 xs) (by kernel_rfl) (tells_vw _ _)) ?_)
      rintro _ _ ⟨rfl, rfl⟩
      refine RunR.step (dst := some 24) (op := .convert 9 22 (.tmp 23)) (by kernel_rfl) (Step.str_row hU 5 (strOfNums (enc xs)) rfl rfl rfl (by kernel_rfl) (by kernel_rfl) (fun b4 cq5 hc6 => ?_))
      refine RunR.sil hU [] 1 4 [0, 1, 2, 6, 7] [(0, .slice A xs.length c), (1, .int .u16 n), (2, .int .u8 l), (6, .bool false), (7, .slice (some ⟨b4, 0, none⟩) ((strOfNums (enc xs) : ByteArray).size) cq5)] ((True) ∧ True) rfl (by kernel_rfl) ⟨trivial, trivial⟩ ?_
      refine RunR.done (by kernel_rfl) ?_
      refine kseq_n ?_
      refine RunC.seq ?_
      refine RunC.seq ?_
      refine RunC.region ?_
      refine RunR.sil hU [] 3 3 [0, 1, 2, 6, 7, 27] [(0, .slice A xs.length c), (1, .int .u16 n), (2, .int .u8 l), (6, .bool false), (7, .slice (some ⟨b4, 0, none⟩) ((strOfNums (enc xs) : ByteArray).size) cq5), (27, .bool (decide ((((strOfNums (enc xs) : ByteArray).size : Nat) : Int) = 0)))] ((True) ∧ (True) ∧ (True) ∧ True) rfl (by kernel_rfl) ⟨trivial, trivial, trivial, trivial⟩ ?_
      refine RunR.env [0, 1, 2, 6, 7, 27] [(0, .slice A xs.length c), (1, .int .u16 n), (2, .int .u8 l), (6, .bool false), (7, .slice (some ⟨b4, 0, none⟩) ((strOfNums (enc xs) : ByteArray).size) cq5), (27, .bool (decide ((((strOfNums (enc xs) : ByteArray).size : Nat) : Int) = 0)))] (by kernel_rfl) ?_
      have hk7 : ¬ ((((strOfNums (enc xs) : ByteArray).size : Nat) : Int) = 0) := by omega
      refine RunR.enveq [(0, .slice A xs.length c), (1, .int .u16 n), (2, .int .u8 l), (6, .bool false), (7, .slice (some ⟨b4, 0, none⟩) ((strOfNums (enc xs) : ByteArray).size) cq5), (27, .bool false)] (by rw [decide_eq_false hk7]; try rfl) ?_
      refine RunR.done (by kernel_rfl) ?_
      refine kseq_n ?_
      refine RunC.cond (b := false) (by kernel_rfl) (fun h => by cases h) (fun _ => ?_)
      refine RunC.skip ?_
      refine kseq_n ?_
      refine RunC.seq ?_
      refine RunC.region ?_
      have hm8 : 0 ≤ n % (((strOfNums (enc xs) : ByteArray).size : Nat) : Int) ∧ n % (((strOfNums (enc xs) : ByteArray).size : Nat) : Int) < (((strOfNums (enc xs) : ByteArray).size : Nat) : Int) := ⟨Int.emod_nonneg _ (by omega), Int.emod_lt_of_pos _ (by omega)⟩
      refine RunR.sil hU [1, 4] 6 6 [0, 2, 6, 7, 8] [(0, .slice A xs.length c), (2, .int .u8 l), (6, .bool false), (7, .slice (some ⟨b4, 0, none⟩) ((strOfNums (enc xs) : ByteArray).size) cq5), (8, .int .i64 (n % (((strOfNums (enc xs) : ByteArray).size : Nat) : Int)))] ((True) ∧ (-9223372036854775808 ≤ n ∧ n < 9223372036854775808) ∧ (True) ∧ (True) ∧ (0 ≤ n ∧ 0 < (((strOfNums (enc xs) : ByteArray).size : Nat) : Int)) ∧ (True) ∧ True) rfl (by kernel_rfl) ⟨trivial, (by omega), trivial, trivial, (by omega), trivial, trivial⟩ ?_
      refine RunR.done (by kernel_rfl) ?_
      refine kseq_n ?_
      refine RunC.seq ?_
      refine RunC.region ?_
      refine RunR.sil hU [] 3 3 [0, 2, 6, 7, 8, 35] [(0, .slice A xs.length c), (2, .int .u8 l), (6, .bool false), (7, .slice (some ⟨b4, 0, none⟩) ((strOfNums (enc xs) : ByteArray).size) cq5), (8, .int .i64 (n % (((strOfNums (enc xs) : ByteArray).size : Nat) : Int))), (35, .pointer (elemAt (some ⟨b4, 0, none⟩) (n % (((strOfNums (enc xs) : ByteArray).size : Nat) : Int)) 1))] ((True) ∧ (True) ∧ ((0 ≤ (n % (((strOfNums (enc xs) : ByteArray).size : Nat) : Int)) ∧ (n % (((strOfNums (enc xs) : ByteArray).size : Nat) : Int)) < (((strOfNums (enc xs) : ByteArray).size : Nat) : Int)) ∧ Option.isSome (some ⟨b4, 0, none⟩ : Option Addr) = true) ∧ True) rfl (by kernel_rfl) ⟨trivial, trivial, ⟨by omega, rfl⟩, trivial⟩ ?_
      refine RunR.step (dst := some 36) (op := .load 5 (.tmp 35)) (by kernel_rfl) (Step.load_num hU 0 (mrw 5 b4 (sb (strOfNums (enc xs)))) (some ⟨b4, 0, none⟩) (n % (((strOfNums (enc xs) : ByteArray).size : Nat) : Int)) .u8 (sb (strOfNums (enc xs))) rfl (by kernel_rfl) (by kernel_rfl) (tells_mrw _ _ _) (by kernel_rfl) (by omega) ?_)
      refine RunR.sil hU [] 3 7 [0, 2, 6, 7, 8, 9] [(0, .slice A xs.length c), (2, .int .u8 l), (6, .bool false), (7, .slice (some ⟨b4, 0, none⟩) ((strOfNums (enc xs) : ByteArray).size) cq5), (8, .int .i64 (n % (((strOfNums (enc xs) : ByteArray).size : Nat) : Int))), (9, .bool (decide (((sb (strOfNums (enc xs))).getD (n % (((strOfNums (enc xs) : ByteArray).size : Nat) : Int)).toNat 0) = l)))] ((True) ∧ (True) ∧ (True) ∧ True) rfl (by kernel_rfl) ⟨trivial, trivial, trivial, trivial⟩ ?_
      refine RunR.done (by kernel_rfl) ?_
      refine kseq_n ?_
      refine RunC.seq ?_
      refine RunC.region ?_
      refine RunR.sil hU [] 4 4 [0, 6, 7, 9, 41, 42] [(0, .slice A xs.length c), (6, .bool false), (7, .slice (some ⟨b4, 0, none⟩) ((strOfNums (enc xs) : ByteArray).size) cq5), (9, .bool (decide (((sb (strOfNums (enc xs))).getD (n % (((strOfNums (enc xs) : ByteArray).size : Nat) : Int)).toNat 0) = l))), (41, .int .u8 l), (42, .pointer (elemAt (some ⟨b4, 0, none⟩) (n % (((strOfNums (enc xs) : ByteArray).size : Nat) : Int)) 1))] ((True) ∧ (True) ∧ (True) ∧ ((0 ≤ (n % (((strOfNums (enc xs) : ByteArray).size : Nat) : Int)) ∧ (n % (((strOfNums (enc xs) : ByteArray).size : Nat) : Int)) < (((strOfNums (enc xs) : ByteArray).size : Nat) : Int)) ∧ Option.isSome (some ⟨b4, 0, none⟩ : Option Addr) = true) ∧ True) rfl (by kernel_rfl) ⟨trivial, trivial, trivial, ⟨by omega, rfl⟩, trivial⟩ ?_
      refine RunR.step (dst := none) (op := .store 5 (.tmp 42) (.tmp 41)) (by kernel_rfl) (Step.store_mrw hU 0 5 b4 (sb (strOfNums (enc xs))) (n % (((strOfNums (enc xs) : ByteArray).size : Nat) : Int)) l (by kernel_rfl) (by kernel_rfl) (by kernel_rfl) rfl (by omega) ?_)
      have hl9 : ((sb (strOfNums (enc xs))).set (n % (((strOfNums (enc xs) : ByteArray).size : Nat) : Int)).toNat l).length = (sb (strOfNums (enc xs))).length := List.length_set
      refine RunR.done (by kernel_rfl) ?_
      refine kseq_n ?_
      refine RunC.seq ?_
      refine RunC.region ?_
      refine RunR.sil hU [] 1 1 [0, 6, 9, 44] [(0, .slice A xs.length c), (6, .bool false), (9, .bool (decide (((sb (strOfNums (enc xs))).getD (n % (((strOfNums (enc xs) : ByteArray).size : Nat) : Int)).toNat 0) = l))), (44, .slice (some ⟨b4, 0, none⟩) ((strOfNums (enc xs) : ByteArray).size) cq5)] ((True) ∧ True) rfl (by kernel_rfl) ⟨trivial, trivial⟩ ?_
      refine RunR.step (dst := some 45) (op := .convert 22 9 (.tmp 44)) (by kernel_rfl) (Step.bytes_str hU 5 0 (mrw 5 b4 ((sb (strOfNums (enc xs))).set (n % (((strOfNums (enc xs) : ByteArray).size : Nat) : Int)).toNat l)) (some ⟨b4, 0, none⟩) ((strOfNums (enc xs) : ByteArray).size) cq5 ((sb (strOfNums (enc xs))).set (n % (((strOfNums (enc xs) : ByteArray).size : Nat) : Int)).toNat l) rfl rfl rfl (by kernel_rfl) (by kernel_rfl) (tells_mrw _ _ _) (by first | rfl | omega | (simp; done)) (by kernel_rfl) ?_)
      refine RunR.step (dst := some 46) (op := .call { callee := .value (.func 13), args := #[.tmp 45], argTypes := #[9] }) (by kernel_rfl) (Step.call 13 [.string (strOfNums ((sb (strOfNums (enc xs))).set (n % (((strOfNums (enc xs) : ByteArray).size : Nat) : Int)).toNat l))] (by kernel_rfl) (by kernel_rfl) [] [] [mrw 5 b4 ((sb (strOfNums (enc xs))).set (n % (((strOfNums (enc xs) : ByteArray).size : Nat) : Int)).toNat l), vw A (nums .u8 xs)] (b_Bytes_spec (strOfNums ((sb (strOfNums (enc xs))).set (n % (((strOfNums (enc xs) : ByteArray).size : Nat) : Int)).toNat l)) (by rw [strOfNums_size, List.length_set]; omega)) [] (by kernel_rfl) (Lend.nil _) ?_)
      rintro _ _ ⟨A910, c911, zs12, ok13, rfl, rfl, hp14, hp15, hp16, hp17, hp18, hp19⟩
      refine RunR.sil hU [] 5 8 [0, 6, 9, 10, 11] [(0, .slice A xs.length c), (6, .bool false), (9, .bool (decide (((sb (strOfNums (enc xs))).getD (n % (((strOfNums (enc xs) : ByteArray).size : Nat) : Int)).toNat 0) = l))), (10, .slice A910 zs12.length c911), (11, .bool ok13)] ((True) ∧ (True) ∧ (True) ∧ (True) ∧ (True) ∧ True) rfl (by kernel_rfl) ⟨trivial, trivial, trivial, trivial, trivial, trivial⟩ ?_
      refine RunR.done (by kernel_rfl) ?_
      refine kseq_n ?_
      refine RunC.seq ?_
      refine RunC.seq ?_
      refine RunC.region ?_
      refine RunR.sil hU [] 1 1 [0, 6, 10, 11, 49] [(0, .slice A xs.length c), (6, .bool false), (10, .slice A910 zs12.length c911), (11, .bool ok13), (49, .bool (decide (((sb (strOfNums (enc xs))).getD (n % (((strOfNums (enc xs) : ByteArray).size : Nat) : Int)).toNat 0) = l)))] ((True) ∧ True) rfl (by kernel_rfl) ⟨trivial, trivial⟩ ?_
      refine RunR.done (by kernel_rfl) ?_
      refine kseq_n ?_
      refine RunC.condp (((sb (strOfNums (enc xs))).getD (n % (((strOfNums (enc xs) : ByteArray).size : Nat) : Int)).toNat 0) = l) (by kernel_rfl) (fun h20 => ?_) (fun h20 => ?_)
      · skip
        refine RunC.seq ?_
        refine RunC.region ?_
        refine RunR.sil hU [] 2 2 [0, 6, 10, 11, 51] [(0, .slice A xs.length c), (6, .bool false), (10, .slice A910 zs12.length c911), (11, .bool ok13), (51, .bool ok13)] ((True) ∧ (True) ∧ True) rfl (by kernel_rfl) ⟨trivial, trivial, trivial⟩ ?_
        refine RunR.env [0, 6, 10, 11, 51] [(0, .slice A xs.length c), (6, .bool false), (10, .slice A910 zs12.length c911), (11, .bool ok13), (51, .bool ok13)] (by kernel_rfl) ?_
        have hk21 : ok13 = true := by exact (turned_same hIxs ⟨hl2.1, by omega⟩ (by omega) (by assumption) hp14).1
        refine RunR.enveq [(0, .slice A xs.length c), (6, .bool false), (10, .slice A910 zs12.length c911), (11, .bool true), (51, .bool true)] (by rw [hk21]; try rfl) ?_
        refine RunR.sil hU [] 2 4 [0, 6, 10, 11, 51, 52, 53] [(0, .slice A xs.length c), (6, .bool false), (10, .slice A910 zs12.length c911), (11, .bool true), (51, .bool true), (52, .slice A910 zs12.length c911), (53, .slice A xs.length c)] ((True) ∧ (True) ∧ True) rfl (by kernel_rfl) ⟨trivial, trivial, trivial⟩ ?_
        refine RunR.step (dst := some 54) (op := .call { callee := .value (.func 15), args := #[.tmp 52, .tmp 53], argTypes := #[22, 22] }) (by kernel_rfl) (Step.call 15 [.slice A910 zs12.length c911, .slice A xs.length c] (by kernel_rfl) (by kernel_rfl) [] [vw A910 (nums .u8 zs12), vw A (nums .u8 xs)] [row 5 1 (.slice A910 zs12.length c911) zs12.length (nums .u8 zs12), mrw 5 b4 ((sb (strOfNums (enc xs))).set (n % (((strOfNums (enc xs) : ByteArray).size : Nat) : Int)).toNat l), vw A (nums .u8 xs)] (r_Equal_spec A910 c911 zs12 A c xs zs12.length xs.length hp16 (by have hq := hp17; rw [strOfNums_size, List.length_set] at hq; omega) hIxs (by first | assumption | omega | (simp only [List.length_append, List.length_cons, List.length_nil, List.length_set, List.length_replicate, List.length_take, List.length_drop]; omega) | (simp only [fits] at *; omega) | (simp only [List.length_append, List.length_cons, List.length_nil, List.length_set, List.length_replicate, List.length_take, List.length_drop] at *; omega) | (simp; done) | decide) (by first | rfl | assumption | omega | (simp only [List.length_append, List.length_cons, List.length_nil, List.length_set, List.length_replicate, List.length_take, List.length_drop]; omega) | (simp; done)) (by first | rfl | assumption | omega | (simp only [List.length_append, List.length_cons, List.length_nil, List.length_set, List.length_replicate, List.length_take, List.length_drop]; omega) | (simp; done))) [] (by kernel_rfl) (((Lend.nil _).tells 2 (vw A (nums .u8 xs)) A (nums .u8 xs) (by kernel_rfl) (tells_vw _ _)).tells 0 (row 5 1 (.slice A910 zs12.length c911) zs12.length (nums .u8 zs12)) A910 (nums .u8 zs12) (by kernel_rfl) (tells_row _ _ _ _ _ _)) ?_)
        rintro _ _ ⟨rfl, rfl⟩
        refine RunR.sil hU [] 2 7 [0, 6, 10, 11] [(0, .slice A xs.length c), (6, .bool (decide (zs12 = xs))), (10, .slice A910 zs12.length c911), (11, .bool true)] ((True) ∧ (True) ∧ True) rfl (by kernel_rfl) ⟨trivial, trivial, trivial⟩ ?_
        refine RunR.env [0, 6, 10, 11] [(0, .slice A xs.length c), (6, .bool (decide (zs12 = xs))), (10, .slice A910 zs12.length c911), (11, .bool true)] (by kernel_rfl) ?_
        have hk22 : (zs12 = xs) := by first | exact (turned_same hIxs ⟨hl2.1, by omega⟩ (by omega) (by assumption) hp14).2 | exact turned_other hIxs ⟨hl2.1, by omega⟩ (by omega) (by assumption) hp14 (by assumption)
        refine RunR.enveq [(0, .slice A xs.length c), (6, .bool true), (10, .slice A910 zs12.length c911), (11, .bool true)] (by rw [decide_eq_true hk22]; try rfl) ?_
        refine RunR.done (by kernel_rfl) ?_
        refine kseq_n ?_
        refine RunC.ret ?_
        refine kseq_r ?_
        refine kret_r [.bool true] [] [] ⟨rfl, trivial⟩ (by kernel_rfl) rfl ⟨rfl, rfl⟩
      · skip
        refine RunC.skip ?_
        refine kseq_n ?_
        refine RunC.seq ?_
        refine RunC.region ?_
        refine RunR.sil hU [] 3 3 [0, 6, 10, 58] [(0, .slice A xs.length c), (6, .bool false), (10, .slice A910 zs12.length c911), (58, .bool (!ok13))] ((True) ∧ (True) ∧ (True) ∧ True) rfl (by kernel_rfl) ⟨trivial, trivial, trivial, trivial⟩ ?_
        refine RunR.env [0, 6, 10, 58] [(0, .slice A xs.length c), (6, .bool false), (10, .slice A910 zs12.length c911), (58, .bool (!ok13))] (by kernel_rfl) ?_
        by_cases h23 : ok13 = true
        · skip
          refine RunR.enveq [(0, .slice A xs.length c), (6, .bool false), (10, .slice A910 zs12.length c911), (58, .bool false)] (by rw [h23]; try rfl) ?_
          refine RunR.sil hU [] 7 10 [6, 63, 64, 65] [(6, .bool false), (63, .bool false), (64, .slice A910 zs12.length c911), (65, .slice A xs.length c)] ((True) ∧ (True) ∧ (True) ∧ (True) ∧ True) rfl (by kernel_rfl) ⟨trivial, trivial, trivial, trivial, trivial⟩ ?_
          refine RunR.step (dst := some 66) (op := .call { callee := .value (.func 15), args := #[.tmp 64, .tmp 65], argTypes := #[22, 22] }) (by kernel_rfl) (Step.call 15 [.slice A910 zs12.length c911, .slice A xs.length c] (by kernel_rfl) (by kernel_rfl) [] [vw A910 (nums .u8 zs12), vw A (nums .u8 xs)] [row 5 1 (.slice A910 zs12.length c911) zs12.length (nums .u8 zs12), mrw 5 b4 ((sb (strOfNums (enc xs))).set (n % (((strOfNums (enc xs) : ByteArray).size : Nat) : Int)).toNat l), vw A (nums .u8 xs)] (r_Equal_spec A910 c911 zs12 A c xs zs12.length xs.length hp16 (by have hq := hp17; rw [strOfNums_size, List.length_set] at hq; omega) hIxs (by first | assumption | omega | (simp only [List.length_append, List.length_cons, List.length_nil, List.length_set, List.length_replicate, List.length_take, List.length_drop]; omega) | (simp only [fits] at *; omega) | (simp only [List.length_append, List.length_cons, List.length_nil, List.length_set, List.length_replicate, List.length_take, List.length_drop] at *; omega) | (simp; done) | decide) (by first | rfl | assumption | omega | (simp only [List.length_append, List.length_cons, List.length_nil, List.length_set, List.length_replicate, List.length_take, List.length_drop]; omega) | (simp; done)) (by first | rfl | assumption | omega | (simp only [List.length_append, List.length_cons, List.length_nil, List.length_set, List.length_replicate, List.length_take, List.length_drop]; omega) | (simp; done))) [] (by kernel_rfl) (((Lend.nil _).tells 2 (vw A (nums .u8 xs)) A (nums .u8 xs) (by kernel_rfl) (tells_vw _ _)).tells 0 (row 5 1 (.slice A910 zs12.length c911) zs12.length (nums .u8 zs12)) A910 (nums .u8 zs12) (by kernel_rfl) (tells_row _ _ _ _ _ _)) ?_)
          rintro _ _ ⟨rfl, rfl⟩
          refine RunR.sil hU [] 3 14 [6] [(6, .bool (!decide (zs12 = xs)))] ((True) ∧ (True) ∧ (True) ∧ True) rfl (by kernel_rfl) ⟨trivial, trivial, trivial, trivial⟩ ?_
          refine RunR.env [6] [(6, .bool (!decide (zs12 = xs)))] (by kernel_rfl) ?_
          have hk24 : ¬ (zs12 = xs) := by first | exact (turned_same hIxs ⟨hl2.1, by omega⟩ (by omega) (by assumption) hp14).2 | exact turned_other hIxs ⟨hl2.1, by omega⟩ (by omega) (by assumption) hp14 (by assumption)
          refine RunR.enveq [(6, .bool true)] (by rw [decide_eq_false hk24]; try rfl) ?_
          refine RunR.done (by kernel_rfl) ?_
          refine kseq_n ?_
          refine RunC.ret ?_
          refine kret_r [.bool true] [] [] ⟨rfl, trivial⟩ (by kernel_rfl) rfl ⟨rfl, rfl⟩
        · skip
          have h23 := Bool.eq_false_iff.2 h23
          refine RunR.enveq [(0, .slice A xs.length c), (6, .bool false), (10, .slice A910 zs12.length c911), (58, .bool true)] (by rw [h23]; try rfl) ?_
          refine RunR.sil hU [] 5 8 [0, 6, 10, 63] [(0, .slice A xs.length c), (6, .bool false), (10, .slice A910 zs12.length c911), (63, .bool (decide (((zs12.length : Nat) : Int) = 0)))] ((True) ∧ (True) ∧ (True) ∧ (True) ∧ (True) ∧ True) rfl (by kernel_rfl) ⟨trivial, trivial, trivial, trivial, trivial, trivial⟩ ?_
          refine RunR.env [0, 6, 10, 63] [(0, .slice A xs.length c), (6, .bool false), (10, .slice A910 zs12.length c911), (63, .bool (decide (((zs12.length : Nat) : Int) = 0)))] (by kernel_rfl) ?_
          have hk25 : (((zs12.length : Nat) : Int) = 0) := by rw [hp15 (by assumption)]; rfl
          refine RunR.enveq [(0, .slice A xs.length c), (6, .bool false), (10, .slice A910 zs12.length c911), (63, .bool true)] (by rw [decide_eq_true hk25]; try rfl) ?_
          refine RunR.sil hU [] 6 14 [6] [(6, .bool true)] ((True) ∧ (True) ∧ True) rfl (by kernel_rfl) ⟨trivial, trivial, trivial⟩ ?_
          refine RunR.done (by kernel_rfl) ?_
          refine kseq_n ?_
          refine RunC.ret ?_
          refine kret_r [.bool true] [] [] ⟨rfl, trivial⟩ (by kernel_rfl) rfl ⟨rfl, rfl⟩
end Go.Proofs.YtjhinpmnpdgadaaDoor.LB64Turned
