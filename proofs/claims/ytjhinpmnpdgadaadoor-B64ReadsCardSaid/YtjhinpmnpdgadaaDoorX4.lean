/- What these functions compute: a contract for each, walked through its code. -/
import Derived.Test.YtjhinpmnpdgadaaDoorBTPure
import Derived.Test.YtjhinpmnpdgadaaDoorProg
import Derived.Test.YtjhinpmnpdgadaaDoorX1
import Derived.Test.YtjhinpmnpdgadaaDoorX2
import Derived.Test.YtjhinpmnpdgadaaDoorX3
namespace Go.Proofs.YtjhinpmnpdgadaaDoor.X4
open Go Go.Proofs.YtjhinpmnpdgadaaDoor.SL Go.Proofs.YtjhinpmnpdgadaaDoor.SL.W Go.Proofs.YtjhinpmnpdgadaaDoor.SL.Y Go.Proofs.YtjhinpmnpdgadaaDoor.SL.B Go.Proofs.YtjhinpmnpdgadaaDoor.X1 Go.Proofs.YtjhinpmnpdgadaaDoor.X2 Go.Proofs.YtjhinpmnpdgadaaDoor.X3
set_option linter.unusedVariables false
set_option linter.unusedSimpArgs false
set_option maxRecDepth 100000
set_option maxHeartbeats 40000000
def U : Tab where
  und := [(3, .int .i64), (5, .int .u8), (9, .string), (22, .slice 5), (46, .int .u64)]
  fld := []
  sz := [(3, 1), (5, 1), (9, 1), (22, 1), (46, 1)]
  ti := [(3, (1, 8, .int .i64 0)), (5, (1, 1, .int .u8 0)), (9, (1, 16, .string ⟨#[]⟩)), (22, (1, 24, .slice none 0 0)), (46, (1, 8, .int .u64 0))]
  bld := []

theorem hU : U.OK Tryd.prog where
  und := by
    intro p hp
    simp only [U, List.mem_cons, List.not_mem_nil, or_false] at hp
    rcases hp with rfl | rfl | rfl | rfl | rfl
    · exact Tryd.underlying3
    · exact Tryd.underlying5
    · exact Tryd.underlying9
    · exact Tryd.underlying22
    · exact Tryd.underlying46
  fld := by
    intro p hp; cases hp
  sz := by
    intro p hp
    simp only [U, List.mem_cons, List.not_mem_nil, or_false] at hp
    rcases hp with rfl | rfl | rfl | rfl | rfl
    · exact ⟨Tryd.prog.types[3]!, by kernel_rfl, by kernel_rfl⟩
    · exact ⟨Tryd.prog.types[5]!, by kernel_rfl, by kernel_rfl⟩
    · exact ⟨Tryd.prog.types[9]!, by kernel_rfl, by kernel_rfl⟩
    · exact ⟨Tryd.prog.types[22]!, by kernel_rfl, by kernel_rfl⟩
    · exact ⟨Tryd.prog.types[46]!, by kernel_rfl, by kernel_rfl⟩
  ti := by
    intro p hp
    simp only [U, List.mem_cons, List.not_mem_nil, or_false] at hp
    rcases hp with rfl | rfl | rfl | rfl | rfl
    · exact ⟨Tryd.prog.types[3]!, by kernel_rfl, by kernel_rfl, by kernel_rfl, by kernel_rfl⟩
    · exact ⟨Tryd.prog.types[5]!, by kernel_rfl, by kernel_rfl, by kernel_rfl, by kernel_rfl⟩
    · exact ⟨Tryd.prog.types[9]!, by kernel_rfl, by kernel_rfl, by kernel_rfl, by kernel_rfl⟩
    · exact ⟨Tryd.prog.types[22]!, by kernel_rfl, by kernel_rfl, by kernel_rfl, by kernel_rfl⟩
    · exact ⟨Tryd.prog.types[46]!, by kernel_rfl, by kernel_rfl, by kernel_rfl, by kernel_rfl⟩
  bld := by
    intro p hp; cases hp
  mixed := by kernel_rfl

theorem b_four_spec (s : ByteArray) (m : Int) (hs : (s : ByteArray).size = 4) (hm : 2 ≤ m ∧ m ≤ 4) :
    CallsS Tryd.prog 27 [.string s, .int .i64 m] [] (fun r D => ∃ (A9 : Option Addr) (c9 : Nat) (zs : List Int) (ok : Bool), r = .tuple #[.slice A9 zs.length c9, .bool ok] ∧ D = [row 5 1 (.slice A9 zs.length c9) zs.length (nums .u8 zs)] ∧ (decG (sb s) m.toNat = if ok = true then some zs else none) ∧ (In .u8 zs) ∧ (zs.length ≤ 3) ∧ (zs.length ≤ c9) ∧ (0 < zs.length → Option.isSome A9 = true)) := by
  refine CallsS.enter hU Tryd.f27 _ [.tmp 4, .tmp 5] 56 Tryd.func27 rfl (by decide) rfl rfl (by kernel_rfl) fun w0 W => ?_
  refine RunC.seq ?_
  refine RunC.region ?_
  refine RunR.sil hU [] 2 2 [0, 1, 4, 5] [(0, .string s), (1, .int .i64 m), (4, .slice none 0 0), (5, .bool false)] ((True) ∧ (True) ∧ True) rfl (by kernel_rfl) ⟨trivial, trivial, trivial⟩ ?_
  refine RunR.done (by kernel_rfl) ?_
  refine kseq_n ?_
  refine RunC.seq ?_
  refine RunC.region ?_
  refine RunR.sil hU [] 1 1 [0, 1, 4, 5, 6] [(0, .string s), (1, .int .i64 m), (4, .slice none 0 0), (5, .bool false), (6, .int .u64 0)] ((True) ∧ True) rfl (by kernel_rfl) ⟨trivial, trivial⟩ ?_
  refine RunR.done (by kernel_rfl) ?_
  refine kseq_n ?_
  refine RunC.seq ?_
  refine RunC.seq ?_
  refine RunC.region ?_
  refine RunR.sil hU [] 2 2 [0, 1, 4, 5, 6, 9, 10] [(0, .string s), (1, .int .i64 m), (4, .slice none 0 0), (5, .bool false), (6, .int .u64 0), (9, .int .i64 m), (10, .int .i64 0)] ((True) ∧ (True) ∧ True) rfl (by kernel_rfl) ⟨trivial, trivial, trivial⟩ ?_
  refine RunR.done (by kernel_rfl) ?_
  refine kseq_n ?_
  refine RunC.block ?_
  refine RunC.env [0, 1, 6, 9, 10] [(0, .string s), (1, .int .i64 m), (6, .int .u64 0), (9, .int .i64 m), (10, .int .i64 0)] (by kernel_rfl) ?_
  refine RunC.only [] [] (by kernel_rfl) ?_
  refine RunC.loop (σ := Nat) (fun n_ t_ D_ => ∃ (i : Int) (v : Int), (0 ≤ i) ∧ (i ≤ m) ∧ (v = vals (sb s) i.toNat) ∧ (good (sb s) i.toNat = true) ∧ (0 ≤ v ∧ (i ≤ 0 → v < 1) ∧ (i ≤ 1 → v < 64) ∧ (i ≤ 2 → v < 4096) ∧ (i ≤ 3 → v < 262144) ∧ v < 16777216) ∧ n_ = ((m - i).toNat : Nat) ∧ t_ = [(0, .string s), (1, .int .i64 m), (6, .int .u64 v), (9, .int .i64 m), (10, .int .i64 i)] ∧ D_ = []) id _ ⟨0, 0, (by first | assumption | omega | (simp only [List.length_append, List.length_cons, List.length_nil, List.length_set, List.length_replicate, List.length_take, List.length_drop]; omega) | (simp only [fits] at *; omega) | (simp only [List.length_append, List.length_cons, List.length_nil, List.length_set, List.length_replicate, List.length_take, List.length_drop] at *; omega) | (simp; done) | decide), (by first | assumption | omega | (simp only [List.length_append, List.length_cons, List.length_nil, List.length_set, List.length_replicate, List.length_take, List.length_drop]; omega) | (simp only [fits] at *; omega) | (simp only [List.length_append, List.length_cons, List.length_nil, List.length_set, List.length_replicate, List.length_take, List.length_drop] at *; omega) | (simp; done) | decide), (by rfl), (by rfl), (by first | assumption | omega | (simp only [List.length_append, List.length_cons, List.length_nil, List.length_set, List.length_replicate, List.length_take, List.length_drop]; omega) | (simp only [fits] at *; omega) | (simp only [List.length_append, List.length_cons, List.length_nil, List.length_set, List.length_replicate, List.length_take, List.length_drop] at *; omega) | (simp; done) | decide), rfl, rfl, rfl⟩ ?_
  rintro n_ _ _ ⟨i, v, hi, hi2, hv, hg, hvb, rfl, rfl, rfl⟩
  refine RunC.seq ?_
  refine RunC.region ?_
  refine RunR.sil hU [] 1 1 [0, 1, 6, 9, 10, 11] [(0, .string s), (1, .int .i64 m), (6, .int .u64 v), (9, .int .i64 m), (10, .int .i64 i), (11, .bool (decide (i < m)))] ((True) ∧ True) rfl (by kernel_rfl) ⟨trivial, trivial⟩ ?_
  refine RunR.done (by kernel_rfl) ?_
  refine kseq_n ?_
  refine RunC.seq ?_
  refine RunC.condp (i < m) (by kernel_rfl) (fun h1 => ?_) (fun h1 => ?_)
  · skip
    refine RunC.skip ?_
    refine kseq_n ?_
    refine RunC.seq ?_
    refine RunC.block ?_
    refine RunC.seq ?_
    refine RunC.region ?_
    refine RunR.sil hU [] 2 2 [0, 1, 6, 7, 9, 10] [(0, .string s), (1, .int .i64 m), (6, .int .u64 v), (7, .int .i64 i), (9, .int .i64 m), (10, .int .i64 i)] ((True) ∧ (True) ∧ True) rfl (by kernel_rfl) ⟨trivial, trivial, trivial⟩ ?_
    refine RunR.done (by kernel_rfl) ?_
    refine kseq_n ?_
    refine RunC.seq ?_
    refine RunC.region ?_
    have hb2 : 0 ≤ (sb s).getD (i).toNat 0 ∧ (sb s).getD (i).toNat 0 < 256 := (In.sb _).at_ _
    refine RunR.sil hU [] 3 3 [0, 1, 6, 9, 10, 15] [(0, .string s), (1, .int .i64 m), (6, .int .u64 v), (9, .int .i64 m), (10, .int .i64 i), (15, .int .u8 ((sb s).getD (i).toNat 0))] ((True) ∧ (True) ∧ (0 ≤ i ∧ i < (s : ByteArray).size) ∧ True) rfl (by kernel_rfl) ⟨trivial, trivial, (by omega), trivial⟩ ?_
    refine RunR.step (dst := some 16) (op := .call { callee := .value (.func 43), args := #[.const (.string ⟨#[65, 66, 67, 68, 69, 70, 71, 72, 73, 74, 75, 76, 77, 78, 79, 80, 81, 82, 83, 84, 85, 86, 87, 88, 89, 90, 97, 98, 99, 100, 101, 102, 103, 104, 105, 106, 107, 108, 109, 110, 111, 112, 113, 114, 115, 116, 117, 118, 119, 120, 121, 122, 48, 49, 50, 51, 52, 53, 54, 55, 56, 57, 43, 47]⟩), .tmp 15], argTypes := #[9, 5] }) (by kernel_rfl) (Step.call 43 [.string LS, .int .u8 ((sb s).getD (i).toNat 0)] (by kernel_rfl) (by kernel_rfl) [] [] [] (b_Index_spec ((sb s).getD (i).toNat 0) (by first | assumption | omega | (simp only [List.length_append, List.length_cons, List.length_nil, List.length_set, List.length_replicate, List.length_take, List.length_drop]; omega) | (simp only [fits] at *; omega) | (simp only [List.length_append, List.length_cons, List.length_nil, List.length_set, List.length_replicate, List.length_take, List.length_drop] at *; omega) | (simp; done) | decide)) [] (by kernel_rfl) (Lend.nil _) ?_)
    rintro _ _ ⟨rfl, rfl, hp3⟩
    refine RunR.sil hU [] 1 5 [0, 1, 6, 8, 9, 10] [(0, .string s), (1, .int .i64 m), (6, .int .u64 v), (8, .int .i64 (dec ((sb s).getD (i).toNat 0))), (9, .int .i64 m), (10, .int .i64 i)] ((True) ∧ True) rfl (by kernel_rfl) ⟨trivial, trivial⟩ ?_
    refine RunR.done (by kernel_rfl) ?_
    refine kseq_n ?_
    refine RunC.seq ?_
    refine RunC.seq ?_
    refine RunC.region ?_
    refine RunR.sil hU [] 2 2 [0, 1, 6, 8, 9, 10, 18] [(0, .string s), (1, .int .i64 m), (6, .int .u64 v), (8, .int .i64 (dec ((sb s).getD (i).toNat 0))), (9, .int .i64 m), (10, .int .i64 i), (18, .bool (decide ((dec ((sb s).getD (i).toNat 0)) < 0)))] ((True) ∧ (True) ∧ True) rfl (by kernel_rfl) ⟨trivial, trivial, trivial⟩ ?_
    refine RunR.done (by kernel_rfl) ?_
    refine kseq_n ?_
    refine RunC.condp ((dec ((sb s).getD (i).toNat 0)) < 0) (by kernel_rfl) (fun h4 => ?_) (fun h4 => ?_)
    · skip
      refine RunC.seq ?_
      refine RunC.region ?_
      refine RunR.sil hU [] 2 2 [0, 1, 4, 5, 6, 8, 9, 10] [(0, .string s), (1, .int .i64 m), (4, .slice none 0 0), (5, .bool false), (6, .int .u64 v), (8, .int .i64 (dec ((sb s).getD (i).toNat 0))), (9, .int .i64 m), (10, .int .i64 i)] ((True) ∧ (True) ∧ True) rfl (by kernel_rfl) ⟨trivial, trivial, trivial⟩ ?_
      refine RunR.done (by kernel_rfl) ?_
      refine kseq_n ?_
      refine RunC.ret ?_
      refine kseq_r ?_
      refine kblock_r ?_
      refine kseq_r ?_
      refine kloop_r ?_
      refine kblock_r ?_
      refine kseq_r ?_
      refine kret_rt ([row 5 1 (.slice none 0 0) 0 (nums .u8 ([] : List Int))]) (fun w0 W w hs => (hs).nil_row 5 1) [.slice none 0 0, .bool false] [0] [row 5 1 (.slice none 0 0) 0 (nums .u8 ([] : List Int))] ⟨rfl, rfl, trivial⟩ (by kernel_rfl) rfl ⟨none, 0, [], false, rfl, rfl, (by simp only [Bool.false_eq_true, if_false]; exact decG_bad (i := i.toNat) (by omega) (by assumption)), (by exact In.nil _), (by exact Nat.zero_le _), (by exact Nat.le_refl _), (by intro h; simp at h)⟩
    · skip
      refine RunC.skip ?_
      refine kseq_n ?_
      refine RunC.region ?_
      have hm5 : bits2 .or .u64 (v * 2 ^ 6) (dec ((sb s).getD (i).toNat 0)) = (v * 2 ^ 6) + (dec ((sb s).getD (i).toNat 0)) := by first | exact or_add 6 (by decide) (by omega) (by omega) (by omega)
      refine RunR.sil hU [1, 3] 6 6 [0, 1, 6, 9, 10] [(0, .string s), (1, .int .i64 m), (6, .int .u64 (bits2 .or .u64 (v * 2 ^ 6) (dec ((sb s).getD (i).toNat 0)))), (9, .int .i64 m), (10, .int .i64 i)] ((True) ∧ (0 ≤ (6 : Int) ∧ 0 ≤ (v * 2 ^ 6) ∧ (v * 2 ^ 6) < 18446744073709551616) ∧ (True) ∧ (0 ≤ (dec ((sb s).getD (i).toNat 0)) ∧ (dec ((sb s).getD (i).toNat 0)) < 18446744073709551616) ∧ (True) ∧ (True) ∧ True) rfl (by kernel_rfl) ⟨trivial, (by omega), trivial, (by omega), trivial, trivial, trivial⟩ ?_
      refine RunR.done (by kernel_rfl) ?_
      refine kblock_n ?_
      refine kseq_n ?_
      refine RunC.region ?_
      refine RunR.sil hU [0] 2 2 [0, 1, 6, 9, 10] [(0, .string s), (1, .int .i64 m), (6, .int .u64 (bits2 .or .u64 (v * 2 ^ 6) (dec ((sb s).getD (i).toNat 0)))), (9, .int .i64 m), (10, .int .i64 (i + 1))] ((-9223372036854775808 ≤ (i + 1) ∧ (i + 1) < 9223372036854775808) ∧ (True) ∧ True) rfl (by kernel_rfl) ⟨(by omega), trivial, trivial⟩ ?_
      refine RunR.done (by kernel_rfl) ?_
      refine kloop_n _ [0, 1, 6, 9, 10] [] [(0, .string s), (1, .int .i64 m), (6, .int .u64 (bits2 .or .u64 (v * 2 ^ 6) (dec ((sb s).getD (i).toNat 0)))), (9, .int .i64 m), (10, .int .i64 (i + 1))] [] (by kernel_rfl) (by kernel_rfl) ?_ ⟨(i + 1), (bits2 .or .u64 (v * 2 ^ 6) (dec ((sb s).getD (i).toNat 0))), (by first | assumption | omega | (simp only [List.length_append, List.length_cons, List.length_nil, List.length_set, List.length_replicate, List.length_take, List.length_drop]; omega) | (simp only [fits] at *; omega) | (simp only [List.length_append, List.length_cons, List.length_nil, List.length_set, List.length_replicate, List.length_take, List.length_drop] at *; omega) | (simp; done) | decide), (by first | assumption | omega | (simp only [List.length_append, List.length_cons, List.length_nil, List.length_set, List.length_replicate, List.length_take, List.length_drop]; omega) | (simp only [fits] at *; omega) | (simp only [List.length_append, List.length_cons, List.length_nil, List.length_set, List.length_replicate, List.length_take, List.length_drop] at *; omega) | (simp; done) | decide), (by rw [show (i + 1).toNat = i.toNat + 1 by omega, vals, ← hv]; first | omega | (simp only [show (2 : Int) ^ 6 = 64 by decide] at *; omega)), (by rw [show (i + 1).toNat = i.toNat + 1 by omega, good, hg, decide_eq_true (by omega)]; rfl), (by omega), rfl, (by first | rfl | simp only [List.length_set]), (by first | rfl | simp only [List.length_set])⟩
      show ((m - (i + 1)).toNat : Nat) < ((m - i).toNat : Nat)
      omega
  · skip
    refine RunC.exit ?_
    refine kseq_e ?_
    refine kloop_e ?_
    refine kblock_e ?_
    refine kseq_n ?_
    refine RunC.seq ?_
    refine RunC.seq ?_
    refine RunC.region ?_
    refine RunR.sil hU [] 1 1 [6, 25] [(6, .int .u64 v), (25, .int .i64 m)] ((True) ∧ True) rfl (by kernel_rfl) ⟨trivial, trivial⟩ ?_
    refine RunR.done (by kernel_rfl) ?_
    refine kseq_n ?_
    refine RunC.block ?_
    refine RunC.seq ?_
    refine RunC.region ?_
    refine RunR.sil hU [] 2 2 [6, 25, 26] [(6, .int .u64 v), (25, .int .i64 m), (26, .bool (decide (m = 2)))] ((True) ∧ (True) ∧ True) rfl (by kernel_rfl) ⟨trivial, trivial, trivial⟩ ?_
    refine RunR.done (by kernel_rfl) ?_
    refine kseq_n ?_
    refine RunC.condp (m = 2) (by kernel_rfl) (fun h6 => ?_) (fun h6 => ?_)
    · skip
      refine RunC.seq ?_
      refine RunC.region ?_
      refine RunR.sil hU [1] 3 3 [6, 30] [(6, .int .u64 v), (30, .int .u8 (IntKind.wrap .u8 (v / 2 ^ 4)))] ((True) ∧ (0 ≤ (4 : Int)) ∧ (True) ∧ True) rfl (by kernel_rfl) ⟨trivial, (by omega), trivial, trivial⟩ ?_
      refine RunR.step (dst := some 31) (op := .buildSlice 22 1 #[(0, .tmp 30)]) (by kernel_rfl) (Step.lit_nums hU 5 1 .u8 (.int .u8 0) ([IntKind.wrap .u8 (v / 2 ^ 4)] : List Int) rfl rfl (by kernel_rfl) rfl rfl (by kernel_rfl) (fun b7 => ?_))
      have hl8 : (([IntKind.wrap .u8 (v / 2 ^ 4)] : List Int)).length = 1 := rfl
      have hm9 : bits2 .and .u64 v 15 = v % 16 := and_mod 4 (by decide) (by decide) (by omega)
      have hm10 := and_le .u64 rfl v 15 (by decide) (by decide)
      refine RunR.sil hU [] 5 9 [4, 5, 6] [(4, .slice (some ⟨b7, 0, none⟩) 1 1), (5, .bool (decide ((bits2 .and .u64 v 15) = 0))), (6, .int .u64 v)] ((True) ∧ (True) ∧ (True) ∧ (True) ∧ (True) ∧ True) rfl (by kernel_rfl) ⟨trivial, trivial, trivial, trivial, trivial, trivial⟩ ?_
      refine RunR.done (by kernel_rfl) ?_
      refine kseq_n ?_
      refine RunC.ret ?_
      refine kblock_r ?_
      refine kseq_r ?_
      refine kret_r [.slice (some ⟨b7, 0, none⟩) 1 1, .bool (decide ((bits2 .and .u64 v 15) = 0))] [0] [row 5 1 (.slice (some ⟨b7, 0, none⟩) 1 1) 1 (nums .u8 ([IntKind.wrap .u8 (v / 2 ^ 4)] : List Int))] ⟨rfl, rfl, trivial⟩ (by kernel_rfl) rfl ⟨(some ⟨b7, 0, none⟩), 1, ([IntKind.wrap .u8 (v / 2 ^ 4)] : List Int), (decide ((bits2 .and .u64 v 15) = 0)), rfl, rfl, (by rw [show m.toNat = 2 by omega]; exact decG_2 (by rw [show i = 2 by omega] at hg; exact hg) (by rw [hv, show i = 2 by omega]; rfl) (congrArg (fun q => decide (q = 0)) (and_mod 4 (m := 15) (by decide) (by decide) (by omega)))), (by first | exact In.cons (fits_wrap _ _) (In.nil _) | exact In.cons (fits_wrap _ _) (In.cons (fits_wrap _ _) (In.nil _)) | exact In.cons (fits_wrap _ _) (In.cons (fits_wrap _ _) (In.cons (fits_wrap _ _) (In.nil _)))), (by simp only [List.length_cons, List.length_nil]; decide), (by simp only [List.length_cons, List.length_nil]; decide), (by intro _; rfl)⟩
    · skip
      refine RunC.seq ?_
      refine RunC.region ?_
      refine RunR.sil hU [] 2 2 [6, 35] [(6, .int .u64 v), (35, .bool (decide (m = 3)))] ((True) ∧ (True) ∧ True) rfl (by kernel_rfl) ⟨trivial, trivial, trivial⟩ ?_
      refine RunR.done (by kernel_rfl) ?_
      refine kseq_n ?_
      refine RunC.condp (m = 3) (by kernel_rfl) (fun h11 => ?_) (fun h11 => ?_)
      · skip
        refine RunC.seq ?_
        refine RunC.region ?_
        refine RunR.sil hU [1, 4] 6 6 [6, 39, 42] [(6, .int .u64 v), (39, .int .u8 (IntKind.wrap .u8 (v / 2 ^ 10))), (42, .int .u8 (IntKind.wrap .u8 (v / 2 ^ 2)))] ((True) ∧ (0 ≤ (10 : Int)) ∧ (True) ∧ (True) ∧ (0 ≤ (2 : Int)) ∧ (True) ∧ True) rfl (by kernel_rfl) ⟨trivial, (by omega), trivial, trivial, (by omega), trivial, trivial⟩ ?_
        refine RunR.step (dst := some 43) (op := .buildSlice 22 2 #[(0, .tmp 39), (1, .tmp 42)]) (by kernel_rfl) (Step.lit_nums hU 5 1 .u8 (.int .u8 0) ([IntKind.wrap .u8 (v / 2 ^ 10), IntKind.wrap .u8 (v / 2 ^ 2)] : List Int) rfl rfl (by kernel_rfl) rfl rfl (by kernel_rfl) (fun b12 => ?_))
        have hl13 : (([IntKind.wrap .u8 (v / 2 ^ 10), IntKind.wrap .u8 (v / 2 ^ 2)] : List Int)).length = 2 := rfl
        have hm14 : bits2 .and .u64 v 3 = v % 4 := and_mod 2 (by decide) (by decide) (by omega)
        have hm15 := and_le .u64 rfl v 3 (by decide) (by decide)
        refine RunR.sil hU [] 5 12 [4, 5, 6] [(4, .slice (some ⟨b12, 0, none⟩) 2 2), (5, .bool (decide ((bits2 .and .u64 v 3) = 0))), (6, .int .u64 v)] ((True) ∧ (True) ∧ (True) ∧ (True) ∧ (True) ∧ True) rfl (by kernel_rfl) ⟨trivial, trivial, trivial, trivial, trivial, trivial⟩ ?_
        refine RunR.done (by kernel_rfl) ?_
        refine kseq_n ?_
        refine RunC.ret ?_
        refine kblock_r ?_
        refine kseq_r ?_
        refine kret_r [.slice (some ⟨b12, 0, none⟩) 2 2, .bool (decide ((bits2 .and .u64 v 3) = 0))] [0] [row 5 1 (.slice (some ⟨b12, 0, none⟩) 2 2) 2 (nums .u8 ([IntKind.wrap .u8 (v / 2 ^ 10), IntKind.wrap .u8 (v / 2 ^ 2)] : List Int))] ⟨rfl, rfl, trivial⟩ (by kernel_rfl) rfl ⟨(some ⟨b12, 0, none⟩), 2, ([IntKind.wrap .u8 (v / 2 ^ 10), IntKind.wrap .u8 (v / 2 ^ 2)] : List Int), (decide ((bits2 .and .u64 v 3) = 0)), rfl, rfl, (by rw [show m.toNat = 3 by omega]; exact decG_3 (by rw [show i = 3 by omega] at hg; exact hg) (by rw [hv, show i = 3 by omega]; rfl) (congrArg (fun q => decide (q = 0)) (and_mod 2 (m := 3) (by decide) (by decide) (by omega)))), (by first | exact In.cons (fits_wrap _ _) (In.nil _) | exact In.cons (fits_wrap _ _) (In.cons (fits_wrap _ _) (In.nil _)) | exact In.cons (fits_wrap _ _) (In.cons (fits_wrap _ _) (In.cons (fits_wrap _ _) (In.nil _)))), (by simp only [List.length_cons, List.length_nil]; decide), (by simp only [List.length_cons, List.length_nil]; decide), (by intro _; rfl)⟩
      · skip
        refine RunC.skip ?_
        refine kblock_n ?_
        refine kseq_n ?_
        refine RunC.seq ?_
        refine RunC.region ?_
        refine RunR.sil hU [1, 4] 8 8 [49, 52, 54] [(49, .int .u8 (IntKind.wrap .u8 (v / 2 ^ 16))), (52, .int .u8 (IntKind.wrap .u8 (v / 2 ^ 8))), (54, .int .u8 (IntKind.wrap .u8 v))] ((True) ∧ (0 ≤ (16 : Int)) ∧ (True) ∧ (True) ∧ (0 ≤ (8 : Int)) ∧ (True) ∧ (True) ∧ (True) ∧ True) rfl (by kernel_rfl) ⟨trivial, (by omega), trivial, trivial, (by omega), trivial, trivial, trivial, trivial⟩ ?_
        refine RunR.step (dst := some 55) (op := .buildSlice 22 3 #[(0, .tmp 49), (1, .tmp 52), (2, .tmp 54)]) (by kernel_rfl) (Step.lit_nums hU 5 1 .u8 (.int .u8 0) ([IntKind.wrap .u8 (v / 2 ^ 16), IntKind.wrap .u8 (v / 2 ^ 8), IntKind.wrap .u8 v] : List Int) rfl rfl (by kernel_rfl) rfl rfl (by kernel_rfl) (fun b16 => ?_))
        have hl17 : (([IntKind.wrap .u8 (v / 2 ^ 16), IntKind.wrap .u8 (v / 2 ^ 8), IntKind.wrap .u8 v] : List Int)).length = 3 := rfl
        refine RunR.sil hU [] 2 11 [4, 5] [(4, .slice (some ⟨b16, 0, none⟩) 3 3), (5, .bool true)] ((True) ∧ (True) ∧ True) rfl (by kernel_rfl) ⟨trivial, trivial, trivial⟩ ?_
        refine RunR.done (by kernel_rfl) ?_
        refine kseq_n ?_
        refine RunC.ret ?_
        refine kret_r [.slice (some ⟨b16, 0, none⟩) 3 3, .bool true] [0] [row 5 1 (.slice (some ⟨b16, 0, none⟩) 3 3) 3 (nums .u8 ([IntKind.wrap .u8 (v / 2 ^ 16), IntKind.wrap .u8 (v / 2 ^ 8), IntKind.wrap .u8 v] : List Int))] ⟨rfl, rfl, trivial⟩ (by kernel_rfl) rfl ⟨(some ⟨b16, 0, none⟩), 3, ([IntKind.wrap .u8 (v / 2 ^ 16), IntKind.wrap .u8 (v / 2 ^ 8), IntKind.wrap .u8 v] : List Int), true, rfl, rfl, (by rw [show m.toNat = 4 by omega, if_pos rfl]; exact decG_4 (by rw [show i = 4 by omega] at hg; exact hg) (by rw [hv, show i = 4 by omega]; rfl)), (by first | exact In.cons (fits_wrap _ _) (In.nil _) | exact In.cons (fits_wrap _ _) (In.cons (fits_wrap _ _) (In.nil _)) | exact In.cons (fits_wrap _ _) (In.cons (fits_wrap _ _) (In.cons (fits_wrap _ _) (In.nil _)))), (by simp only [List.length_cons, List.length_nil]; decide), (by simp only [List.length_cons, List.length_nil]; decide), (by intro _; rfl)⟩
end Go.Proofs.YtjhinpmnpdgadaaDoor.X4
