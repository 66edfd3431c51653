/- The law B64Joins returns true whatever it is handed: its walk, on the contracts of what it calls. -/
import Derived.Test.YtjhinpmnpdgadaaDoorBPure
import Derived.Test.YtjhinpmnpdgadaaDoorProg
import Derived.Test.YtjhinpmnpdgadaaDoorX1
import Derived.Test.YtjhinpmnpdgadaaDoorX2
import Derived.Test.YtjhinpmnpdgadaaDoorX3
import Derived.Test.YtjhinpmnpdgadaaDoorX4
import Derived.Test.YtjhinpmnpdgadaaDoorX5
import Derived.Test.YtjhinpmnpdgadaaDoorX6
namespace Go.Proofs.YtjhinpmnpdgadaaDoor.LB64Joins
open Go Go.Proofs.YtjhinpmnpdgadaaDoor.SL Go.Proofs.YtjhinpmnpdgadaaDoor.SL.W Go.Proofs.YtjhinpmnpdgadaaDoor.SL.Y Go.Proofs.YtjhinpmnpdgadaaDoor.SL.B Go.Proofs.YtjhinpmnpdgadaaDoor.X1 Go.Proofs.YtjhinpmnpdgadaaDoor.X2 Go.Proofs.YtjhinpmnpdgadaaDoor.X3 Go.Proofs.YtjhinpmnpdgadaaDoor.X4 Go.Proofs.YtjhinpmnpdgadaaDoor.X5 Go.Proofs.YtjhinpmnpdgadaaDoor.X6
set_option linter.unusedVariables false
set_option linter.unusedSimpArgs false
set_option maxRecDepth 100000
set_option maxHeartbeats 40000000
def U : Tab where
  und := [(3, .int .i64), (5, .int .u8), (9, .string), (22, .slice 5), (30, .int .u16)]
  fld := []
  sz := [(3, 1), (5, 1), (9, 1), (22, 1), (30, 1)]
  ti := [(3, (1, 8, .int .i64 0)), (5, (1, 1, .int .u8 0)), (9, (1, 16, .string ⟨#[]⟩)), (22, (1, 24, .slice none 0 0)), (30, (1, 2, .int .u16 0))]
  bld := []

theorem hU : U.OK Tryd.prog where
  und := by
    intro p hp
    simp only [U, List.mem_cons, List.not_mem_nil, or_false] at hp
    rcases hp with rfl | rfl | rfl | rfl | rfl
    · exact Tryd.underlying3
    · exact Tryd.underlying5
    · exact Tryd.underlying9
    · exact Tryd.underlying22
    · exact Tryd.underlying30
  fld := by
    intro p hp; cases hp
  sz := by
    intro p hp
    simp only [U, List.mem_cons, List.not_mem_nil, or_false] at hp
    rcases hp with rfl | rfl | rfl | rfl | rfl
    · exact ⟨Tryd.prog.types[3]!, by kernel_rfl, by kernel_rfl⟩
    · exact ⟨Tryd.prog.types[5]!, by kernel_rfl, by kernel_rfl⟩
    · exact ⟨Tryd.prog.types[9]!, by kernel_rfl, by kernel_rfl⟩
    · exact ⟨Tryd.prog.types[22]!, by kernel_rfl, by kernel_rfl⟩
    · exact ⟨Tryd.prog.types[30]!, by kernel_rfl, by kernel_rfl⟩
  ti := by
    intro p hp
    simp only [U, List.mem_cons, List.not_mem_nil, or_false] at hp
    rcases hp with rfl | rfl | rfl | rfl | rfl
    · exact ⟨Tryd.prog.types[3]!, by kernel_rfl, by kernel_rfl, by kernel_rfl, by kernel_rfl⟩
    · exact ⟨Tryd.prog.types[5]!, by kernel_rfl, by kernel_rfl, by kernel_rfl, by kernel_rfl⟩
    · exact ⟨Tryd.prog.types[9]!, by kernel_rfl, by kernel_rfl, by kernel_rfl, by kernel_rfl⟩
    · exact ⟨Tryd.prog.types[22]!, by kernel_rfl, by kernel_rfl, by kernel_rfl, by kernel_rfl⟩
    · exact ⟨Tryd.prog.types[30]!, by kernel_rfl, by kernel_rfl, by kernel_rfl, by kernel_rfl⟩
  bld := by
    intro p hp; cases hp
  mixed := by kernel_rfl

theorem l14_B64Joins_spec (A : Option Addr) (c : Nat) (xs : List Int) (n : Int) (l_xs : Nat) (hIxs : In .u8 xs) (hCxs : xs.length ≤ c) (hBxs : xs.length ≤ 140737488351232) (hn : fits .u16 n) (hl_xs : xs.length = l_xs) :
    CallsS Tryd.prog 5 [.slice A l_xs c, .int .u16 n] [vw A (nums .u8 xs)] (fun r D => r = .bool true ∧ D = []) := by
  subst hl_xs
  refine CallsS.enter hU Tryd.f5 _ [.tmp 4] 32 Tryd.func5 rfl (by decide) rfl rfl (by kernel_rfl) fun w0 W => ?_
  have hn2 := hn; simp only [fits] at hn2
  refine RunC.know (p := 0 < xs.length → Option.isSome A = true) (fun _ _ w hs => vw_some hs 0 rfl (by first | (simp [nums_length]; done) | exact dosV_len _ | exact bls_len _ | exact chV_len _)) (fun hA1 => ?_)
  refine RunC.seq ?_
  refine RunC.region ?_
  refine RunR.sil hU [] 1 1 [0, 1, 4] [(0, .slice A xs.length c), (1, .int .u16 n), (4, .bool false)] ((True) ∧ True) rfl (by kernel_rfl) ⟨trivial, trivial⟩ ?_
  refine RunR.done (by kernel_rfl) ?_
  refine kseq_n ?_
  refine RunC.seq ?_
  refine RunC.seq ?_
  refine RunC.region ?_
  refine RunR.step (dst := some 6) (op := .call { callee := .value (.func 11), args := #[], argTypes := #[] }) (by kernel_rfl) (Step.call 11 [] (by kernel_rfl) (by kernel_rfl) [] [] [vw A (nums .u8 xs)] (l14_awake_spec) [] (by kernel_rfl) (Lend.nil _) ?_)
  rintro _ _ ⟨rfl, rfl⟩
  refine RunR.sil hU [] 1 2 [0, 1, 4, 7] [(0, .slice A xs.length c), (1, .int .u16 n), (4, .bool false), (7, .bool false)] ((True) ∧ True) rfl (by kernel_rfl) ⟨trivial, trivial⟩ ?_
  refine RunR.done (by kernel_rfl) ?_
  refine kseq_n ?_
  refine RunC.cond (b := false) (by kernel_rfl) (fun h => by cases h) (fun _ => ?_)
  refine RunC.skip ?_
  refine kseq_n ?_
  refine RunC.seq ?_
  refine RunC.region ?_
  refine RunR.sil hU [1, 2] 4 4 [0, 4, 5] [(0, .slice A xs.length c), (4, .bool false), (5, .int .i64 (3 * n))] ((True) ∧ (-9223372036854775808 ≤ n ∧ n < 9223372036854775808) ∧ (-9223372036854775808 ≤ (3 * n) ∧ (3 * n) < 9223372036854775808) ∧ (True) ∧ True) rfl (by kernel_rfl) ⟨trivial, (by omega), (by omega), trivial, trivial⟩ ?_
  refine RunR.done (by kernel_rfl) ?_
  refine kseq_n ?_
  refine RunC.seq ?_
  refine RunC.seq ?_
  refine RunC.region ?_
  refine RunR.sil hU [] 4 4 [0, 4, 5, 14] [(0, .slice A xs.length c), (4, .bool false), (5, .int .i64 (3 * n)), (14, .bool (decide (((xs.length : Nat) : Int) > 4096)))] ((True) ∧ (True) ∧ (True) ∧ (True) ∧ True) rfl (by kernel_rfl) ⟨trivial, trivial, trivial, trivial, trivial⟩ ?_
  refine RunR.env [0, 4, 5, 14] [(0, .slice A xs.length c), (4, .bool false), (5, .int .i64 (3 * n)), (14, .bool (decide (((xs.length : Nat) : Int) > 4096)))] (by kernel_rfl) ?_
  by_cases h2 : ((xs.length : Nat) : Int) > 4096
  · skip
    refine RunR.enveq [(0, .slice A xs.length c), (4, .bool false), (5, .int .i64 (3 * n)), (14, .bool true)] (by rw [decide_eq_true h2]; try rfl) ?_
    refine RunR.sil hU [] 5 9 [0, 4, 5, 19] [(0, .slice A xs.length c), (4, .bool false), (5, .int .i64 (3 * n)), (19, .bool true)] ((True) ∧ True) rfl (by kernel_rfl) ⟨trivial, trivial⟩ ?_
    refine RunR.done (by kernel_rfl) ?_
    refine kseq_n ?_
    refine RunC.cond (b := true) (by kernel_rfl) (fun _ => ?_) (fun h => by cases h)
    refine RunC.seq ?_
    refine RunC.region ?_
    refine RunR.sil hU [] 1 1 [0, 4, 5] [(0, .slice A xs.length c), (4, .bool true), (5, .int .i64 (3 * n))] ((True) ∧ True) rfl (by kernel_rfl) ⟨trivial, trivial⟩ ?_
    refine RunR.done (by kernel_rfl) ?_
    refine kseq_n ?_
    refine RunC.ret ?_
    refine kseq_r ?_
    refine kret_r [.bool true] [] [] ⟨rfl, trivial⟩ (by kernel_rfl) rfl ⟨rfl, rfl⟩
  · skip
    refine RunR.enveq [(0, .slice A xs.length c), (4, .bool false), (5, .int .i64 (3 * n)), (14, .bool false)] (by rw [decide_eq_false h2]; try rfl) ?_
    refine RunR.sil hU [] 5 9 [0, 4, 5, 19] [(0, .slice A xs.length c), (4, .bool false), (5, .int .i64 (3 * n)), (19, .bool (decide ((3 * n) > ((xs.length : Nat) : Int))))] ((True) ∧ (True) ∧ (True) ∧ (True) ∧ (True) ∧ True) rfl (by kernel_rfl) ⟨trivial, trivial, trivial, trivial, trivial, trivial⟩ ?_
    refine RunR.done (by kernel_rfl) ?_
    refine kseq_n ?_
    refine RunC.condp ((3 * n) > ((xs.length : Nat) : Int)) (by kernel_rfl) (fun h3 => ?_) (fun h3 => ?_)
    · skip
      refine RunC.seq ?_
      refine RunC.region ?_
      refine RunR.sil hU [] 1 1 [0, 4, 5] [(0, .slice A xs.length c), (4, .bool true), (5, .int .i64 (3 * n))] ((True) ∧ True) rfl (by kernel_rfl) ⟨trivial, trivial⟩ ?_
      refine RunR.done (by kernel_rfl) ?_
      refine kseq_n ?_
      refine RunC.ret ?_
      refine kseq_r ?_
      refine kret_r [.bool true] [] [] ⟨rfl, trivial⟩ (by kernel_rfl) rfl ⟨rfl, rfl⟩
    · skip
      refine RunC.skip ?_
      refine kseq_n ?_
      refine RunC.seq ?_
      refine RunC.regionU hU 13 [] [] [12] (bm 13 0) (by kernel_rfl) (by kernel_rfl) (by kernel_rfl) ?_
      refine RunU.sil hU false 0 (bm 13 1) 20 (.slice A xs.length c) (True) (by kernel_rfl) trivial (by kernel_rfl) (by kernel_rfl) (fun _ _ _ h => h) ?_
      refine RunU.sil hU false 2 (bm 13 5) 22 (.slice A xs.length c) (True) (by kernel_rfl) trivial (by kernel_rfl) (by kernel_rfl) (fun _ _ _ h => h) ?_
      refine RunU.sil hU false 3 (bm 13 13) 23 (.int .i64 (3 * n)) (True) (by kernel_rfl) trivial (by kernel_rfl) (by kernel_rfl) (fun _ _ _ h => h) ?_
      refine RunU.sil hU false 4 (bm 13 29) 24 (.slice A ((3 * n).toNat) c) (0 ≤ (3 * n) ∧ (3 * n) ≤ ((c : Nat) : Int)) (by kernel_rfl) (by omega) (by kernel_rfl) (by kernel_rfl) (fun _ _ _ h => h) ?_
      obtain ⟨zs4, hz5⟩ : ∃ z : List Int, z = xs.take ((3 * n).toNat) := ⟨_, rfl⟩
      have hl6 : zs4.length = ((3 * n).toNat) := by rw [hz5, List.length_take]; omega
      have hB7_t : Tells (vw A (nums .u8 xs)) (A) (nums .u8 zs4) := by rw [hz5]; exact tells_take_nums (tells_vw _ _) _
      refine RunU.env [0, 4, 5, 19, 20, 22, 23, 24] [(0, .slice A xs.length c), (4, .bool false), (5, .int .i64 (3 * n)), (19, .bool (decide ((3 * n) > ((xs.length : Nat) : Int)))), (20, .slice A xs.length c), (22, .slice A xs.length c), (23, .int .i64 (3 * n)), (24, .slice A ((3 * n).toNat) c)] (by kernel_rfl) ?_
      refine RunU.enveq [(0, .slice A xs.length c), (4, .bool false), (5, .int .i64 (3 * n)), (19, .bool (decide ((3 * n) > ((xs.length : Nat) : Int)))), (20, .slice A xs.length c), (22, .slice A xs.length c), (23, .int .i64 (3 * n)), (24, .slice A zs4.length c)] (by rw [hl6]) ?_
      have hr8 : In .u8 zs4 := by rw [hz5]; exact hIxs.take _
      refine RunU.sil hU false 6 (bm 13 93) 26 (.slice A xs.length c) (True) (by kernel_rfl) trivial (by kernel_rfl) (by kernel_rfl) (fun _ _ _ h => h) ?_
      refine RunU.sil hU false 7 (bm 13 221) 27 (.int .i64 (3 * n)) (True) (by kernel_rfl) trivial (by kernel_rfl) (by kernel_rfl) (fun _ _ _ h => h) ?_
      refine RunU.sil hU false 8 (bm 13 477) 28 (.slice (subBase A ((3 * n).toNat) c 1) (xs.length - ((3 * n).toNat)) (c - ((3 * n).toNat))) (0 ≤ (3 * n) ∧ (3 * n) ≤ ((xs.length : Nat) : Int)) (by kernel_rfl) (by omega) (by kernel_rfl) (by kernel_rfl) (fun _ _ _ h => h) ?_
      obtain ⟨zs9, hz10⟩ : ∃ z : List Int, z = (xs.drop ((3 * n).toNat)).take (xs.length - ((3 * n).toNat)) := ⟨_, rfl⟩
      have hl11 : zs9.length = xs.length - ((3 * n).toNat) := by rw [hz10, List.length_take, List.length_drop]; omega
      have hB13_t : Tells (vw A (nums .u8 xs)) (subBase A ((3 * n).toNat) c 1) (nums .u8 zs9) := by rw [hz10]; exact tells_sub_nums (tells_vw _ _) _ _ _ (by omega) (by omega)
      have hA14 : 0 < zs9.length → Option.isSome (subBase A ((3 * n).toNat) c 1) = true := fun h => part_some (hA1 (by omega)) _ _ _
      refine RunU.env [0, 4, 5, 19, 20, 22, 23, 24, 26, 27, 28] [(0, .slice A xs.length c), (4, .bool false), (5, .int .i64 (3 * n)), (19, .bool (decide ((3 * n) > ((xs.length : Nat) : Int)))), (20, .slice A xs.length c), (22, .slice A xs.length c), (23, .int .i64 (3 * n)), (24, .slice A zs4.length c), (26, .slice A xs.length c), (27, .int .i64 (3 * n)), (28, .slice (subBase A ((3 * n).toNat) c 1) (xs.length - ((3 * n).toNat)) (c - ((3 * n).toNat)))] (by kernel_rfl) ?_
      refine RunU.enveq [(0, .slice A xs.length c), (4, .bool false), (5, .int .i64 (3 * n)), (19, .bool (decide ((3 * n) > ((xs.length : Nat) : Int)))), (20, .slice A xs.length c), (22, .slice A xs.length c), (23, .int .i64 (3 * n)), (24, .slice A zs4.length c), (26, .slice A xs.length c), (27, .int .i64 (3 * n)), (28, .slice (subBase A ((3 * n).toNat) c 1) zs9.length (c - ((3 * n).toNat)))] (by rw [hl11]) ?_
      have hr15 : In .u8 zs9 := by rw [hz10]; exact (hIxs.drop _).take _
      refine RunU.one (dst := some 21) (op := .call { callee := .value (.func 12), args := #[.tmp 20], argTypes := #[22] }) 1 (bm 13 479) [] (by kernel_rfl) (by kernel_rfl) (Step.call 12 [.slice A xs.length c] (by kernel_rfl) (by kernel_rfl) [] [vw A (nums .u8 xs)] [vw A (nums .u8 xs)] (b_Text_spec A c xs xs.length hIxs (by first | assumption | omega | (simp only [List.length_append, List.length_cons, List.length_nil, List.length_set, List.length_replicate, List.length_take, List.length_drop]; omega) | (simp only [fits] at *; omega) | (simp only [List.length_append, List.length_cons, List.length_nil, List.length_set, List.length_replicate, List.length_take, List.length_drop] at *; omega) | (simp; done) | decide) (by first | assumption | omega | (simp only [List.length_append, List.length_cons, List.length_nil, List.length_set, List.length_replicate, List.length_take, List.length_drop]; omega) | (simp only [fits] at *; omega) | (simp only [List.length_append, List.length_cons, List.length_nil, List.length_set, List.length_replicate, List.length_take, List.length_drop] at *; omega) | (simp; done) | decide) (by first | rfl | assumption | omega | (simp only [List.length_append, List.length_cons, List.length_nil, List.length_set, List.length_replicate, List.length_take, List.length_drop]; omega) | (simp; done))) [] (by kernel_rfl) ((Lend.nil _).tells 0 (vw A (nums .u8 xs)) A (nums .u8 xs) (by kernel_rfl) (tells_vw _ _)) ?_)
      rintro _ _ ⟨rfl, rfl⟩
      refine ⟨.inl (by kernel_rfl), ?_⟩
      refine RunU.one (dst := some 25) (op := .call { callee := .value (.func 12), args := #[.tmp 24], argTypes := #[22] }) 5 (bm 13 511) [] (by kernel_rfl) (by kernel_rfl) (Step.call 12 [.slice A zs4.length c] (by kernel_rfl) (by kernel_rfl) [] [vw A (nums .u8 zs4)] [vw A (nums .u8 xs)] (b_Text_spec A c zs4 zs4.length hr8 (by first | assumption | omega | (simp only [List.length_append, List.length_cons, List.length_nil, List.length_set, List.length_replicate, List.length_take, List.length_drop]; omega) | (simp only [fits] at *; omega) | (simp only [List.length_append, List.length_cons, List.length_nil, List.length_set, List.length_replicate, List.length_take, List.length_drop] at *; omega) | (simp; done) | decide) (by first | assumption | omega | (simp only [List.length_append, List.length_cons, List.length_nil, List.length_set, List.length_replicate, List.length_take, List.length_drop]; omega) | (simp only [fits] at *; omega) | (simp only [List.length_append, List.length_cons, List.length_nil, List.length_set, List.length_replicate, List.length_take, List.length_drop] at *; omega) | (simp; done) | decide) (by first | rfl | assumption | omega | (simp only [List.length_append, List.length_cons, List.length_nil, List.length_set, List.length_replicate, List.length_take, List.length_drop]; omega) | (simp; done))) [] (by kernel_rfl) ((Lend.nil _).tells 0 (vw A (nums .u8 xs)) A (nums .u8 zs4) (by kernel_rfl) (hB7_t)) ?_)
      rintro _ _ ⟨rfl, rfl⟩
      refine ⟨.inl (by kernel_rfl), ?_⟩
      refine RunU.one (dst := some 29) (op := .call { callee := .value (.func 12), args := #[.tmp 28], argTypes := #[22] }) 9 (bm 13 1023) [] (by kernel_rfl) (by kernel_rfl) (Step.call 12 [.slice (subBase A ((3 * n).toNat) c 1) zs9.length (c - ((3 * n).toNat))] (by kernel_rfl) (by kernel_rfl) [] [vw (subBase A ((3 * n).toNat) c 1) (nums .u8 zs9)] [vw A (nums .u8 xs)] (b_Text_spec (subBase A ((3 * n).toNat) c 1) (c - ((3 * n).toNat)) zs9 zs9.length hr15 (by first | assumption | omega | (simp only [List.length_append, List.length_cons, List.length_nil, List.length_set, List.length_replicate, List.length_take, List.length_drop]; omega) | (simp only [fits] at *; omega) | (simp only [List.length_append, List.length_cons, List.length_nil, List.length_set, List.length_replicate, List.length_take, List.length_drop] at *; omega) | (simp; done) | decide) (by first | assumption | omega | (simp only [List.length_append, List.length_cons, List.length_nil, List.length_set, List.length_replicate, List.length_take, List.length_drop]; omega) | (simp only [fits] at *; omega) | (simp only [List.length_append, List.length_cons, List.length_nil, List.length_set, List.length_replicate, List.length_take, List.length_drop] at *; omega) | (simp; done) | decide) (by first | rfl | assumption | omega | (simp only [List.length_append, List.length_cons, List.length_nil, List.length_set, List.length_replicate, List.length_take, List.length_drop]; omega) | (simp; done))) [] (by kernel_rfl) ((Lend.nil _).tells 0 (vw A (nums .u8 xs)) (subBase A ((3 * n).toNat) c 1) (nums .u8 zs9) (by kernel_rfl) (hB13_t)) ?_)
      rintro _ _ ⟨rfl, rfl⟩
      refine ⟨.inl (by kernel_rfl), ?_⟩
      refine RunU.sil hU false 10 (bm 13 2047) 30 (.string ((strOfNums (enc zs4)) ++ (strOfNums (enc zs9)))) ((strOfNums (enc zs4) : ByteArray).size + (strOfNums (enc zs9) : ByteArray).size ≤ 9223372036854775807) (by kernel_rfl) (by rw [strOfNums_size, strOfNums_size, enc_len, enc_len]; omega) (by kernel_rfl) (by kernel_rfl) (fun _ _ _ h => h) ?_
      refine RunU.sil hU false 11 (bm 13 4095) 31 (.bool (decide ((strOfNums (enc xs)) = ((strOfNums (enc zs4)) ++ (strOfNums (enc zs9)))))) (True) (by kernel_rfl) trivial (by kernel_rfl) (by kernel_rfl) (fun _ _ _ h => h) ?_
      refine RunU.sil hU false 12 (bm 13 8191) 4 (.bool (decide ((strOfNums (enc xs)) = ((strOfNums (enc zs4)) ++ (strOfNums (enc zs9)))))) (True) (by kernel_rfl) trivial (by kernel_rfl) (by kernel_rfl) (fun _ _ _ h => h) ?_
      refine RunU.env [0, 4, 5, 19, 20, 21, 22, 23, 24, 25, 26, 27, 28, 29, 30, 31] [(0, .slice A xs.length c), (4, .bool (decide ((strOfNums (enc xs)) = ((strOfNums (enc zs4)) ++ (strOfNums (enc zs9)))))), (5, .int .i64 (3 * n)), (19, .bool (decide ((3 * n) > ((xs.length : Nat) : Int)))), (20, .slice A xs.length c), (21, .string (strOfNums (enc xs))), (22, .slice A xs.length c), (23, .int .i64 (3 * n)), (24, .slice A zs4.length c), (25, .string (strOfNums (enc zs4))), (26, .slice A xs.length c), (27, .int .i64 (3 * n)), (28, .slice (subBase A ((3 * n).toNat) c 1) zs9.length (c - ((3 * n).toNat))), (29, .string (strOfNums (enc zs9))), (30, .string ((strOfNums (enc zs4)) ++ (strOfNums (enc zs9)))), (31, .bool (decide ((strOfNums (enc xs)) = ((strOfNums (enc zs4)) ++ (strOfNums (enc zs9))))))] (by kernel_rfl) ?_
      have hk16 : ((strOfNums (enc xs)) = ((strOfNums (enc zs4)) ++ (strOfNums (enc zs9)))) := by exact joins (by assumption) (by assumption) (by omega) (by omega) (by omega)
      refine RunU.enveq [(0, .slice A xs.length c), (4, .bool true), (5, .int .i64 (3 * n)), (19, .bool (decide ((3 * n) > ((xs.length : Nat) : Int)))), (20, .slice A xs.length c), (21, .string (strOfNums (enc xs))), (22, .slice A xs.length c), (23, .int .i64 (3 * n)), (24, .slice A zs4.length c), (25, .string (strOfNums (enc zs4))), (26, .slice A xs.length c), (27, .int .i64 (3 * n)), (28, .slice (subBase A ((3 * n).toNat) c 1) zs9.length (c - ((3 * n).toNat))), (29, .string (strOfNums (enc zs9))), (30, .string ((strOfNums (enc zs4)) ++ (strOfNums (enc zs9)))), (31, .bool true)] (by rw [decide_eq_true hk16]; try rfl) ?_
      refine RunU.env [4] [(4, .bool true)] (by kernel_rfl) ?_
      refine RunU.done (by kernel_rfl) ?_
      refine kseq_n ?_
      refine RunC.ret ?_
      refine kret_r [.bool true] [] [] ⟨rfl, trivial⟩ (by kernel_rfl) rfl ⟨rfl, rfl⟩
end Go.Proofs.YtjhinpmnpdgadaaDoor.LB64Joins
