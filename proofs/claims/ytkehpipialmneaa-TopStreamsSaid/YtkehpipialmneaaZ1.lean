/- What these functions compute: a contract for each, walked through its code. -/
import Derived.Test.YtkehpipialmneaaSLzn
import Derived.Test.YtkehpipialmneaaBPure
import Derived.Test.YtkehpipialmneaaProg
import Derived.Test.YtkehpipialmneaaX1
import Derived.Test.YtkehpipialmneaaX2
import Derived.Test.YtkehpipialmneaaX3
import Derived.Test.YtkehpipialmneaaX4
import Derived.Test.YtkehpipialmneaaX5
import Derived.Test.YtkehpipialmneaaX6
import Derived.Test.YtkehpipialmneaaX7
import Derived.Test.YtkehpipialmneaaX8
import Derived.Test.YtkehpipialmneaaX9
namespace Go.Proofs.Ytkehpipialmneaa.Z1
open Go Go.Proofs.Ytkehpipialmneaa.SL Go.Proofs.Ytkehpipialmneaa.SL.W Go.Proofs.Ytkehpipialmneaa.SL.C Go.Proofs.Ytkehpipialmneaa.SL.H Go.Proofs.Ytkehpipialmneaa.SL.M Go.Proofs.Ytkehpipialmneaa.SL.Y Go.Proofs.Ytkehpipialmneaa.SL.A Go.Proofs.Ytkehpipialmneaa.SL.B Go.Proofs.Ytkehpipialmneaa.X1 Go.Proofs.Ytkehpipialmneaa.X2 Go.Proofs.Ytkehpipialmneaa.X3 Go.Proofs.Ytkehpipialmneaa.X4 Go.Proofs.Ytkehpipialmneaa.X5 Go.Proofs.Ytkehpipialmneaa.X6 Go.Proofs.Ytkehpipialmneaa.X7 Go.Proofs.Ytkehpipialmneaa.X8 Go.Proofs.Ytkehpipialmneaa.X9
set_option linter.unusedVariables false
set_option linter.unusedSimpArgs false
set_option maxRecDepth 100000
set_option maxHeartbeats 40000000
def U : Tab where
  und := [(3, .int .i64), (5, .int .u8), (24, .slice 5), (67, .slice 24)]
  fld := []
  sz := [(3, 1), (5, 1), (24, 1), (67, 1)]
  ti := [(3, (1, 8, .int .i64 0)), (5, (1, 1, .int .u8 0)), (24, (1, 24, .slice none 0 0)), (67, (1, 24, .slice none 0 0))]
  bld := []

theorem hU : U.OK Try.prog where
  und := by
    intro p hp
    simp only [U, List.mem_cons, List.not_mem_nil, or_false] at hp
    rcases hp with rfl | rfl | rfl | rfl
    · exact Try.underlying3
    · exact Try.underlying5
    · exact Try.underlying24
    · exact Try.underlying67
  fld := by
    intro p hp; cases hp
  sz := by
    intro p hp
    simp only [U, List.mem_cons, List.not_mem_nil, or_false] at hp
    rcases hp with rfl | rfl | rfl | rfl
    · exact ⟨Try.prog.types[3]!, by kernel_rfl, by kernel_rfl⟩
    · exact ⟨Try.prog.types[5]!, by kernel_rfl, by kernel_rfl⟩
    · exact ⟨Try.prog.types[24]!, by kernel_rfl, by kernel_rfl⟩
    · exact ⟨Try.prog.types[67]!, by kernel_rfl, by kernel_rfl⟩
  ti := by
    intro p hp
    simp only [U, List.mem_cons, List.not_mem_nil, or_false] at hp
    rcases hp with rfl | rfl | rfl | rfl
    · exact ⟨Try.prog.types[3]!, by kernel_rfl, by kernel_rfl, by kernel_rfl, by kernel_rfl⟩
    · exact ⟨Try.prog.types[5]!, by kernel_rfl, by kernel_rfl, by kernel_rfl, by kernel_rfl⟩
    · exact ⟨Try.prog.types[24]!, by kernel_rfl, by kernel_rfl, by kernel_rfl, by kernel_rfl⟩
    · exact ⟨Try.prog.types[67]!, by kernel_rfl, by kernel_rfl, by kernel_rfl, by kernel_rfl⟩
  bld := by
    intro p hp; cases hp
  mixed := by kernel_rfl

theorem sl_Grow_spec (n : Int) (h0 : 0 ≤ n) (hn : n ≤ 140737488351232) :
    CallsS Try.prog 47 [.slice none 0 0, .int .i64 n] [] (fun r D => ∃ (A9 : Option Addr) (c9 : Nat), r = .slice A9 0 c9 ∧ D = [row 5 1 (.slice A9 0 c9) 0 (nums .u8 ([] : List Int))]) := by
  refine CallsS.enter hU Try.f47 _ [.tmp 4] 27 Try.func47 rfl (by decide) rfl rfl (by kernel_rfl) fun w0 W => ?_
  refine RunC.sr ?_
  refine RunR.sl hU [] 1 1 [0, 1, 4] [(0, .slice none 0 0), (1, .int .i64 n), (4, .slice none 0 0)] 1 ?_
  refine RunR.nn ?_
  refine RunC.seq ?_
  refine RunC.sr ?_
  refine RunR.sl hU [] 2 2 [0, 1, 4, 6] [(0, .slice none 0 0), (1, .int .i64 n), (4, .slice none 0 0), (6, .bool (decide (n < 0)))] 2 ?_
  refine RunR.ev [0, 1, 4, 6] [(0, .slice none 0 0), (1, .int .i64 n), (4, .slice none 0 0), (6, .bool (decide (n < 0)))] ?_
  have hk1 : ¬ (n < 0) := by omega
  refine RunR.enveq [(0, .slice none 0 0), (1, .int .i64 n), (4, .slice none 0 0), (6, .bool false)] (by rw [decide_eq_false hk1]; try rfl) ?_
  refine RunR.nn ?_
  refine RunC.cond (b := false) (by kernel_rfl) (fun h => by cases h) (fun _ => ?_)
  refine RunC.ks ?_
  refine RunC.seq ?_
  refine RunC.sr ?_
  refine RunR.sl hU [] 2 2 [0, 1, 4, 8, 9] [(0, .slice none 0 0), (1, .int .i64 n), (4, .slice none 0 0), (8, .int .i64 n), (9, .slice none 0 0)] 2 ?_
  refine RunR.st (some 10) (.call { callee := .builtin .cap, args := #[.tmp 9], argTypes := #[24] }) (Step.cap hU 5 none 0 0 (by kernel_rfl) (by kernel_rfl) (by kernel_rfl) ?_)
  refine RunR.ev [0, 1, 4, 8, 9, 10] [(0, .slice none 0 0), (1, .int .i64 n), (4, .slice none 0 0), (8, .int .i64 n), (9, .slice none 0 0), (10, .int .i64 0)] ?_
  refine RunR.sil hU [5, 6] 5 8 [0, 1, 4] [(0, .slice none 0 0), (1, .int .i64 (n - 0)), (4, .slice none 0 0)] ((True) ∧ (True) ∧ (-9223372036854775808 ≤ ((0 : Int) - 0) ∧ ((0 : Int) - 0) < 9223372036854775808) ∧ (-9223372036854775808 ≤ (n - 0) ∧ (n - 0) < 9223372036854775808) ∧ (True) ∧ True) rfl (by kernel_rfl) ⟨trivial, trivial, (by decide), (by omega), trivial, trivial⟩ ?_
  refine RunR.nx ?_
  refine RunR.sl hU [] 2 2 [0, 1, 4, 16] [(0, .slice none 0 0), (1, .int .i64 (n - 0)), (4, .slice none 0 0), (16, .bool (decide ((n - 0) > 0)))] 2 ?_
  refine RunR.nn ?_
  refine RunC.condp ((n - 0) > 0) (by kernel_rfl) (fun h2 => ?_) (fun h2 => ?_)
  · skip
    refine RunC.region ?_
    refine RunR.sl hU [] 2 2 [0, 1, 4, 17, 18] [(0, .slice none 0 0), (1, .int .i64 (n - 0)), (4, .slice none 0 0), (17, .slice none 0 0), (18, .slice none 0 0)] 2 ?_
    refine RunR.st (some 19) (.call { callee := .builtin .cap, args := #[.tmp 18], argTypes := #[24] }) (Step.cap hU 5 none 0 0 (by kernel_rfl) (by kernel_rfl) (by kernel_rfl) ?_)
    refine RunR.ev [0, 1, 4, 17, 18, 19] [(0, .slice none 0 0), (1, .int .i64 (n - 0)), (4, .slice none 0 0), (17, .slice none 0 0), (18, .slice none 0 0), (19, .int .i64 0)] ?_
    refine RunR.sil hU [] 1 4 [0, 1, 4, 20] [(0, .slice none 0 0), (1, .int .i64 (n - 0)), (4, .slice none 0 0), (20, .slice none 0 0)] ((0 ≤ (0 : Int) ∧ (0 : Int) ≤ ((0 : Nat) : Int)) ∧ True) rfl (by kernel_rfl) ⟨(by omega), trivial⟩ ?_
    refine RunR.sl hU [] 1 5 [0, 4, 20, 21] [(0, .slice none 0 0), (4, .slice none 0 0), (20, .slice none 0 0), (21, .int .i64 (n - 0))] 1 ?_
    refine RunR.turn ([row 5 1 (.slice none 0 0) 0 (nums .u8 ([] : List Int))]) (fun _ _ w hs => hs.nil_row 5 1) ?_
    refine RunR.st (some 22) (.call { callee := .builtin .append, args := #[.tmp 20, .tmp 21], argTypes := #[24, 3] }) (Step.append_zeros hU 5 1 .u8 .i64 .i64 0 none 0 0 ([] : List Int) (n - 0) rfl rfl rfl (by kernel_rfl) (by kernel_rfl) (by kernel_rfl) (by rfl) (by omega) (by (simp only [List.length_nil]; omega)) (by (simp only [List.length_nil]; omega)) (by kernel_rfl) (fun Aq3 cq4 hc5 hA6 => ?_))
    have hl7 : (([] : List Int) ++ List.replicate ((n - 0).toNat) (0 : Int)).length = ([] : List Int).length + (n - 0).toNat := by rw [List.length_append, List.length_replicate]
    refine RunR.sil hU [] 3 9 [0, 4, 25] [(0, .slice none 0 0), (4, .slice none 0 0), (25, .slice Aq3 0 cq4)] ((True) ∧ (True) ∧ (0 ≤ (0 : Int) ∧ (0 : Int) ≤ ((cq4 : Nat) : Int)) ∧ True) rfl (by kernel_rfl) ⟨trivial, trivial, (by omega), trivial⟩ ?_
    obtain ⟨zs8, hz9⟩ : ∃ z : List Int, z = (([] : List Int) ++ List.replicate ((n - 0).toNat) (0 : Int)).take 0 := ⟨_, rfl⟩
    have hl10 : zs8.length = 0 := by rw [hz9, List.length_take]; omega
    have hB11_t : Tells (row 5 1 (.slice Aq3 ((([] : List Int) ++ List.replicate ((n - 0).toNat) (0 : Int)).length) cq4) ((([] : List Int) ++ List.replicate ((n - 0).toNat) (0 : Int)).length) (nums .u8 (([] : List Int) ++ List.replicate ((n - 0).toNat) (0 : Int)))) (Aq3) (nums .u8 zs8) := by rw [hz9]; exact tells_take_nums (tells_row _ _ _ _ _ _) _
    refine RunR.ev [0, 4, 25] [(0, .slice none 0 0), (4, .slice none 0 0), (25, .slice Aq3 0 cq4)] ?_
    refine RunR.enveq [(0, .slice none 0 0), (4, .slice none 0 0), (25, .slice Aq3 zs8.length cq4)] (by rw [hl10]) ?_
    refine RunR.sl hU [] 1 10 [0, 4] [(0, .slice Aq3 zs8.length cq4), (4, .slice none 0 0)] 1 ?_
    refine RunR.nx ?_
    refine RunR.sl hU [] 2 2 [4] [(4, .slice Aq3 zs8.length cq4)] 2 ?_
    refine RunR.nn ?_
    refine RunC.ret ?_
    refine kret_rt ([row 5 1 (.slice Aq3 0 cq4) 0 (nums .u8 ([] : List Int))]) (fun w0 W w hs => hs.rowCut 0 0 rfl (Nat.zero_le _)) [.slice Aq3 zs8.length cq4] [0] [row 5 1 (.slice Aq3 0 cq4) 0 (nums .u8 ([] : List Int))] ⟨rfl, trivial⟩ (by kernel_rfl) rfl ⟨Aq3, cq4, (by (exact congrArg (fun n => Value.slice _ n _) (by omega))), (by rfl)⟩
  · skip
    refine RunC.ksr ?_
    refine RunR.sl hU [] 2 2 [4] [(4, .slice none 0 0)] 2 ?_
    refine RunR.nn ?_
    refine RunC.ret ?_
    refine kret_rt ([row 5 1 (.slice none 0 0) 0 (nums .u8 ([] : List Int))]) (fun w0 W w hs => (hs).nil_row 5 1) [.slice none 0 0] [0] [row 5 1 (.slice none 0 0) 0 (nums .u8 ([] : List Int))] ⟨rfl, trivial⟩ (by kernel_rfl) rfl ⟨none, 0, (by rfl), (by rfl)⟩

theorem sl_Concat_spec (B : Option Addr) (d : Nat) (rs : List Ro) (l_rs : Nat) (hrs : RowsOK .u8 rs) (hrl : rs.length ≤ 8) (hcat : (cat rs).length ≤ 70368744177664) (hl_rs : rs.length = l_rs) :
    CallsS Try.prog 22 [.slice B l_rs d] [vw B (rowsV rs), vws (rowsL .u8 rs)] (fun r D => ∃ (A9 : Option Addr) (c9 : Nat) (zs : List Int), r = .slice A9 zs.length c9 ∧ D = [row 5 1 (.slice A9 zs.length c9) zs.length (nums .u8 zs)] ∧ (zs = cat rs) ∧ (In .u8 zs) ∧ (zs.length ≤ c9) ∧ (0 < zs.length → Option.isSome A9 = true)) := by
  subst hl_rs
  refine CallsS.enter hU Try.f22 _ [.tmp 2] 36 Try.func22 rfl (by decide) rfl rfl (by kernel_rfl) fun w0 W => ?_
  refine RunC.know (p := 0 < rs.length → Option.isSome B = true) (fun _ _ w hs => vw_some hs 0 rfl (by simp [rowsV_len])) (fun hA1 => ?_)
  refine RunC.sr ?_
  refine RunR.sl hU [] 1 1 [0, 2] [(0, .slice B rs.length d), (2, .slice none 0 0)] 1 ?_
  refine RunR.nx ?_
  refine RunR.sl hU [] 1 1 [0, 2, 3] [(0, .slice B rs.length d), (2, .slice none 0 0), (3, .int .i64 0)] 1 ?_
  refine RunR.nn ?_
  refine RunC.seq ?_
  refine RunC.sr ?_
  refine RunR.sl hU [] 3 3 [0, 2, 3, 9, 10, 11] [(0, .slice B rs.length d), (2, .slice none 0 0), (3, .int .i64 0), (9, .slice B rs.length d), (10, .int .i64 ((rs.length : Nat) : Int)), (11, .int .i64 0)] 3 ?_
  refine RunR.nn ?_
  refine RunC.block ?_
  refine RunC.env [0, 2, 3, 9, 10, 11] [(0, .slice B rs.length d), (2, .slice none 0 0), (3, .int .i64 0), (9, .slice B rs.length d), (10, .int .i64 ((rs.length : Nat) : Int)), (11, .int .i64 0)] (by kernel_rfl) ?_
  refine RunC.only [0, 0] [vw B (rowsV rs), vws (rowsL .u8 rs)] (by kernel_rfl) ?_
  refine RunC.loop (σ := Nat) (fun n_ t_ D_ => ∃ (i : Int) (m : Int), (0 ≤ i) ∧ (i ≤ rs.length) ∧ (m = (cat (rs.take i.toNat)).length) ∧ (m ≤ (cat rs).length) ∧ n_ = ((rs.length - i).toNat : Nat) ∧ t_ = [(0, .slice B rs.length d), (2, .slice none 0 0), (3, .int .i64 m), (9, .slice B rs.length d), (10, .int .i64 ((rs.length : Nat) : Int)), (11, .int .i64 i)] ∧ D_ = [vw B (rowsV rs), vws (rowsL .u8 rs)]) id _ ⟨0, 0, (by omega), (by omega), (by rfl), (by omega), rfl, rfl, rfl⟩ ?_
  rintro n_ _ _ ⟨i, m, hi, hi2, hm, hmb, rfl, rfl, rfl⟩
  refine RunC.sr ?_
  refine RunR.sl hU [] 1 1 [0, 2, 3, 9, 10, 11, 12] [(0, .slice B rs.length d), (2, .slice none 0 0), (3, .int .i64 m), (9, .slice B rs.length d), (10, .int .i64 ((rs.length : Nat) : Int)), (11, .int .i64 i), (12, .bool (decide (i < ((rs.length : Nat) : Int))))] 1 ?_
  refine RunR.nn ?_
  refine RunC.seq ?_
  refine RunC.condp (i < ((rs.length : Nat) : Int)) (by kernel_rfl) (fun h2 => ?_) (fun h2 => ?_)
  · skip
    refine RunC.ks ?_
    refine RunC.seq ?_
    refine RunC.block ?_
    refine RunC.sr ?_
    refine RunR.sil hU [] 1 1 [0, 2, 3, 9, 10, 11, 13] [(0, .slice B rs.length d), (2, .slice none 0 0), (3, .int .i64 m), (9, .slice B rs.length d), (10, .int .i64 ((rs.length : Nat) : Int)), (11, .int .i64 i), (13, .pointer (elemAt B i 1))] (((0 ≤ i ∧ i < ((rs.length : Nat) : Int)) ∧ Option.isSome B = true) ∧ True) rfl (by kernel_rfl) ⟨⟨by omega, hA1 (by omega)⟩, trivial⟩ ?_
    obtain ⟨Ae3, ce4, xe5, hg6, hr7, hc8, hl9⟩ := row_at (by assumption : RowsOK .u8 rs) (i := (i).toNat) (by omega)
    have hcl10 := cat_at hg6
    refine RunR.st (some 14) (.load 24 (.tmp 13)) (Step.load_vw hU 0 B i 1 (rowsV rs) (.slice Ae3 xe5.length ce4) (by kernel_rfl) (by kernel_rfl) (loadv_row (by kernel_rfl) hg6 (Nat.mul_one _)) (by kernel_rfl) (by rw [rowsV_len]; omega) ?_)
    refine RunR.sl hU [] 1 3 [0, 2, 3, 5, 9, 10, 11] [(0, .slice B rs.length d), (2, .slice none 0 0), (3, .int .i64 m), (5, .slice Ae3 xe5.length ce4), (9, .slice B rs.length d), (10, .int .i64 ((rs.length : Nat) : Int)), (11, .int .i64 i)] 1 ?_
    refine RunR.nx ?_
    refine RunR.sil hU [3] 5 5 [0, 2, 3, 9, 10, 11] [(0, .slice B rs.length d), (2, .slice none 0 0), (3, .int .i64 (m + ((xe5.length : Nat) : Int))), (9, .slice B rs.length d), (10, .int .i64 ((rs.length : Nat) : Int)), (11, .int .i64 i)] ((True) ∧ (True) ∧ (True) ∧ (-9223372036854775808 ≤ (m + ((xe5.length : Nat) : Int)) ∧ (m + ((xe5.length : Nat) : Int)) < 9223372036854775808) ∧ (True) ∧ True) rfl (by kernel_rfl) ⟨trivial, trivial, trivial, (by omega), trivial, trivial⟩ ?_
    refine RunR.nx ?_
    refine RunR.sl hU [] 2 2 [0, 2, 3, 9, 10, 11, 20] [(0, .slice B rs.length d), (2, .slice none 0 0), (3, .int .i64 (m + ((xe5.length : Nat) : Int))), (9, .slice B rs.length d), (10, .int .i64 ((rs.length : Nat) : Int)), (11, .int .i64 i), (20, .bool (decide ((m + ((xe5.length : Nat) : Int)) < 0)))] 2 ?_
    refine RunR.ev [0, 2, 3, 9, 10, 11, 20] [(0, .slice B rs.length d), (2, .slice none 0 0), (3, .int .i64 (m + ((xe5.length : Nat) : Int))), (9, .slice B rs.length d), (10, .int .i64 ((rs.length : Nat) : Int)), (11, .int .i64 i), (20, .bool (decide ((m + ((xe5.length : Nat) : Int)) < 0)))] ?_
    have hk11 : ¬ ((m + ((xe5.length : Nat) : Int)) < 0) := by omega
    refine RunR.enveq [(0, .slice B rs.length d), (2, .slice none 0 0), (3, .int .i64 (m + ((xe5.length : Nat) : Int))), (9, .slice B rs.length d), (10, .int .i64 ((rs.length : Nat) : Int)), (11, .int .i64 i), (20, .bool false)] (by rw [decide_eq_false hk11]; try rfl) ?_
    refine RunR.nn ?_
    refine RunC.cond (b := false) (by kernel_rfl) (fun h => by cases h) (fun _ => ?_)
    refine RunC.skip ?_
    refine kblock_n ?_
    refine kseq_n ?_
    refine RunC.region ?_
    refine RunR.sil hU [0] 2 2 [0, 2, 3, 9, 10, 11] [(0, .slice B rs.length d), (2, .slice none 0 0), (3, .int .i64 (m + ((xe5.length : Nat) : Int))), (9, .slice B rs.length d), (10, .int .i64 ((rs.length : Nat) : Int)), (11, .int .i64 (i + 1))] ((-9223372036854775808 ≤ (i + 1) ∧ (i + 1) < 9223372036854775808) ∧ (True) ∧ True) rfl (by kernel_rfl) ⟨(by omega), trivial, trivial⟩ ?_
    refine RunR.dn ?_
    refine kloop_n _ [0, 2, 3, 9, 10, 11] [0, 0] [(0, .slice B rs.length d), (2, .slice none 0 0), (3, .int .i64 (m + ((xe5.length : Nat) : Int))), (9, .slice B rs.length d), (10, .int .i64 ((rs.length : Nat) : Int)), (11, .int .i64 (i + 1))] [vw B (rowsV rs), vws (rowsL .u8 rs)] (by kernel_rfl) (by kernel_rfl) ?_ ⟨(i + 1), (m + ((xe5.length : Nat) : Int)), (by omega), (by assumption), (by rw [show (i + 1).toNat = i.toNat + 1 by omega]; omega), (by omega), rfl, (by rfl), (by rfl)⟩
    show ((rs.length - (i + 1)).toNat : Nat) < ((rs.length - i).toNat : Nat)
    omega
  · skip
    refine RunC.exit ?_
    refine kseq_e ?_
    refine kloop_e ?_
    refine kblock_e ?_
    refine kseq_n ?_
    refine RunC.sr ?_
    refine RunR.sl hU [] 1 1 [0, 2, 23] [(0, .slice B rs.length d), (2, .slice none 0 0), (23, .int .i64 m)] 1 ?_
    refine RunR.st (some 24) (.call { callee := .value (.func 47), args := #[.const (.slice none 0 0), .tmp 23], argTypes := #[24, 3] }) (Step.cn 47 [.slice none 0 0, .int .i64 m] [] [vw B (rowsV rs), vws (rowsL .u8 rs)] (sl_Grow_spec m (by omega) (by omega)) [] ?_)
    rintro _ _ ⟨A912, c913, rfl, rfl⟩
    refine RunR.sl hU [] 1 3 [0, 2, 6] [(0, .slice B rs.length d), (2, .slice none 0 0), (6, .slice A912 0 c913)] 1 ?_
    refine RunR.nn ?_
    refine RunC.seq ?_
    refine RunC.sr ?_
    refine RunR.sl hU [] 3 3 [2, 6, 25, 26, 27] [(2, .slice none 0 0), (6, .slice A912 0 c913), (25, .slice B rs.length d), (26, .int .i64 ((rs.length : Nat) : Int)), (27, .int .i64 0)] 3 ?_
    refine RunR.nn ?_
    refine RunC.block ?_
    refine RunC.env [2, 6, 25, 26, 27] [(2, .slice none 0 0), (6, .slice A912 0 c913), (25, .slice B rs.length d), (26, .int .i64 ((rs.length : Nat) : Int)), (27, .int .i64 0)] (by kernel_rfl) ?_
    refine RunC.only [0, 0, 0] [row 5 1 (.slice A912 0 c913) 0 (nums .u8 ([] : List Int)), vw B (rowsV rs), vws (rowsL .u8 rs)] (by kernel_rfl) ?_
    refine RunC.loop (σ := Nat) (fun n_ t_ D_ => ∃ (j : Int) (os : List Int) (A4 : Option Addr) (c4 : Nat), (0 ≤ j) ∧ (j ≤ rs.length) ∧ (os = cat (rs.take j.toNat)) ∧ (os.length = (cat (rs.take j.toNat)).length) ∧ (In .u8 os) ∧ (os.length ≤ c4) ∧ (0 < os.length → Option.isSome A4 = true) ∧ n_ = ((rs.length - j).toNat : Nat) ∧ t_ = [(2, .slice none 0 0), (6, .slice A4 os.length c4), (25, .slice B rs.length d), (26, .int .i64 ((rs.length : Nat) : Int)), (27, .int .i64 j)] ∧ D_ = [row 5 1 (.slice A4 os.length c4) os.length (nums .u8 os), vw B (rowsV rs), vws (rowsL .u8 rs)]) id _ ⟨0, ([] : List Int), A912, c913, (by omega), (by omega), (by rfl), (by rfl), (by exact In.nil _), (by exact Nat.zero_le _), (by intro h; simp at h), rfl, rfl, rfl⟩ ?_
    rintro n_ _ _ ⟨j, os, A4, c4, hj, hj2, ho, hol, hios, hcos, hAos, rfl, rfl, rfl⟩
    refine RunC.sr ?_
    refine RunR.sl hU [] 1 1 [2, 6, 25, 26, 27, 28] [(2, .slice none 0 0), (6, .slice A4 os.length c4), (25, .slice B rs.length d), (26, .int .i64 ((rs.length : Nat) : Int)), (27, .int .i64 j), (28, .bool (decide (j < ((rs.length : Nat) : Int))))] 1 ?_
    refine RunR.nn ?_
    refine RunC.seq ?_
    refine RunC.condp (j < ((rs.length : Nat) : Int)) (by kernel_rfl) (fun h14 => ?_) (fun h14 => ?_)
    · skip
      refine RunC.ks ?_
      refine RunC.seq ?_
      refine RunC.block ?_
      refine RunC.sr ?_
      refine RunR.sil hU [] 1 1 [2, 6, 25, 26, 27, 29] [(2, .slice none 0 0), (6, .slice A4 os.length c4), (25, .slice B rs.length d), (26, .int .i64 ((rs.length : Nat) : Int)), (27, .int .i64 j), (29, .pointer (elemAt B j 1))] (((0 ≤ j ∧ j < ((rs.length : Nat) : Int)) ∧ Option.isSome B = true) ∧ True) rfl (by kernel_rfl) ⟨⟨by omega, hA1 (by omega)⟩, trivial⟩ ?_
      obtain ⟨Ae15, ce16, xe17, hg18, hr19, hc20, hl21⟩ := row_at (by assumption : RowsOK .u8 rs) (i := (j).toNat) (by omega)
      have hcl22 := cat_at hg18
      refine RunR.st (some 30) (.load 24 (.tmp 29)) (Step.load_vw hU 1 B j 1 (rowsV rs) (.slice Ae15 xe17.length ce16) (by kernel_rfl) (by kernel_rfl) (loadv_row (by kernel_rfl) hg18 (Nat.mul_one _)) (by kernel_rfl) (by rw [rowsV_len]; omega) ?_)
      refine RunR.sl hU [] 1 3 [2, 6, 8, 25, 26, 27] [(2, .slice none 0 0), (6, .slice A4 os.length c4), (8, .slice Ae15 xe17.length ce16), (25, .slice B rs.length d), (26, .int .i64 ((rs.length : Nat) : Int)), (27, .int .i64 j)] 1 ?_
      refine RunR.nn ?_
      refine RunC.region ?_
      refine RunR.sl hU [] 2 2 [2, 6, 25, 26, 27, 31, 32] [(2, .slice none 0 0), (6, .slice A4 os.length c4), (25, .slice B rs.length d), (26, .int .i64 ((rs.length : Nat) : Int)), (27, .int .i64 j), (31, .slice A4 os.length c4), (32, .slice Ae15 xe17.length ce16)] 2 ?_
      refine RunR.st (some 33) (.call { callee := .builtin .append, args := #[.tmp 31, .tmp 32], argTypes := #[24, 24] }) (Step.append_nums hU 5 1 (.int .u8 0) .u8 0 2 A4 os.length c4 os Ae15 xe17.length ce16 (vws (rowsL .u8 rs)) xe17 rfl rfl rfl (by kernel_rfl) (by kernel_rfl) (by kernel_rfl) (by kernel_rfl) (tells_rows hg18) (by rfl) (by rfl) (by omega) (by omega) (by kernel_rfl) (fun Aq23 cq24 hc25 hA26 => ?_))
      have hl27 : (os ++ xe17).length = os.length + xe17.length := List.length_append
      refine RunR.sl hU [] 1 4 [2, 6, 25, 26, 27] [(2, .slice none 0 0), (6, .slice Aq23 ((os ++ xe17).length) cq24), (25, .slice B rs.length d), (26, .int .i64 ((rs.length : Nat) : Int)), (27, .int .i64 j)] 1 ?_
      refine RunR.dn ?_
      refine kblock_n ?_
      refine kseq_n ?_
      refine RunC.region ?_
      refine RunR.sil hU [0] 2 2 [2, 6, 25, 26, 27] [(2, .slice none 0 0), (6, .slice Aq23 ((os ++ xe17).length) cq24), (25, .slice B rs.length d), (26, .int .i64 ((rs.length : Nat) : Int)), (27, .int .i64 (j + 1))] ((-9223372036854775808 ≤ (j + 1) ∧ (j + 1) < 9223372036854775808) ∧ (True) ∧ True) rfl (by kernel_rfl) ⟨(by omega), trivial, trivial⟩ ?_
      refine RunR.dn ?_
      refine kloop_n _ [2, 6, 25, 26, 27] [0, 0, 0] [(2, .slice none 0 0), (6, .slice Aq23 ((os ++ xe17).length) cq24), (25, .slice B rs.length d), (26, .int .i64 ((rs.length : Nat) : Int)), (27, .int .i64 (j + 1))] [row 5 1 (.slice Aq23 ((os ++ xe17).length) cq24) ((os ++ xe17).length) (nums .u8 (os ++ xe17)), vw B (rowsV rs), vws (rowsL .u8 rs)] (by kernel_rfl) (by kernel_rfl) ?_ ⟨(j + 1), (os ++ xe17), Aq23, cq24, (by omega), (by assumption), (by have e := cat_step (rs := rs) (i := j.toNat) (by assumption); rw [show (j + 1).toNat = j.toNat + 1 by omega, ← e, ho]), (by rw [show (j + 1).toNat = j.toNat + 1 by omega]; omega), (by (repeat first | assumption | with_reducible apply In.append)), (by assumption), (fun h => hA26 (by exact h)), rfl, (by rfl), (by rfl)⟩
      show ((rs.length - (j + 1)).toNat : Nat) < ((rs.length - j).toNat : Nat)
      omega
    · skip
      refine RunC.exit ?_
      refine kseq_e ?_
      refine kloop_e ?_
      refine kblock_e ?_
      refine kseq_n ?_
      refine RunC.sr ?_
      refine RunR.sl hU [] 2 2 [2] [(2, .slice A4 os.length c4)] 2 ?_
      refine RunR.nn ?_
      refine RunC.ret ?_
      refine kret_r [.slice A4 os.length c4] [0] [row 5 1 (.slice A4 os.length c4) os.length (nums .u8 os)] ⟨rfl, trivial⟩ (by kernel_rfl) rfl ⟨A4, c4, os, rfl, rfl, (by rw [ho, List.take_of_length_le (by omega)]), hios, (by assumption), (fun h => hAos (by exact h))⟩

theorem a_padded_spec (B : Option Addr) (d : Nat) (rs : List Ro) (l_rs : Nat) (hrs : RowsOK .u8 rs) (hrl : rs.length ≤ 8) (hcat : (cat rs).length ≤ 70368744177664) (hl_rs : rs.length = l_rs) :
    CallsS Try.prog 46 [.slice B l_rs d] [vw B (rowsV rs), vws (rowsL .u8 rs)] (fun r D => ∃ (A9 : Option Addr) (c9 : Nat) (zs : List Int), r = .slice A9 zs.length c9 ∧ D = [row 5 1 (.slice A9 zs.length c9) zs.length (nums .u8 zs)] ∧ (zs = pads rs) ∧ (zs.length ≤ (cat rs).length + 120) ∧ (In .u8 zs) ∧ (zs.length ≤ c9) ∧ (0 < zs.length → Option.isSome A9 = true)) := by
  subst hl_rs
  refine CallsS.enter hU Try.f46 _ [.tmp 2] 24 Try.func46 rfl (by decide) rfl rfl (by kernel_rfl) fun w0 W => ?_
  refine RunC.know (p := 0 < rs.length → Option.isSome B = true) (fun _ _ w hs => vw_some hs 0 rfl (by simp [rowsV_len])) (fun hA1 => ?_)
  refine RunC.sr ?_
  refine RunR.sl hU [] 1 1 [0, 2] [(0, .slice B rs.length d), (2, .slice none 0 0)] 1 ?_
  refine RunR.nx ?_
  refine RunR.sl hU [] 1 1 [0, 2, 3] [(0, .slice B rs.length d), (2, .slice none 0 0), (3, .slice none 0 0)] 1 ?_
  refine RunR.nn ?_
  refine RunC.seq ?_
  refine RunC.sr ?_
  refine RunR.sl hU [] 3 3 [2, 3, 6, 7, 8] [(2, .slice none 0 0), (3, .slice none 0 0), (6, .slice B rs.length d), (7, .int .i64 ((rs.length : Nat) : Int)), (8, .int .i64 0)] 3 ?_
  refine RunR.nn ?_
  refine RunC.block ?_
  refine RunC.turn ([row 5 1 (.slice none 0 0) 0 (nums .u8 ([] : List Int)), vw B (rowsV rs), vws (rowsL .u8 rs)]) (fun _ _ w hs => hs.nil_row 5 1) ?_
  refine RunC.env [2, 3, 6, 7, 8] [(2, .slice none 0 0), (3, .slice none 0 0), (6, .slice B rs.length d), (7, .int .i64 ((rs.length : Nat) : Int)), (8, .int .i64 0)] (by kernel_rfl) ?_
  refine RunC.only [0, 0, 0] [row 5 1 (.slice none 0 0) 0 (nums .u8 ([] : List Int)), vw B (rowsV rs), vws (rowsL .u8 rs)] (by kernel_rfl) ?_
  refine RunC.loop (σ := Nat) (fun n_ t_ D_ => ∃ (i : Int) (os : List Int) (A4 : Option Addr) (c4 : Nat), (0 ≤ i) ∧ (i ≤ rs.length) ∧ (os = pads (rs.take i.toNat)) ∧ (os.length ≤ (cat (rs.take i.toNat)).length + 120) ∧ (In .u8 os) ∧ (os.length ≤ c4) ∧ (0 < os.length → Option.isSome A4 = true) ∧ n_ = ((rs.length - i).toNat : Nat) ∧ t_ = [(2, .slice none 0 0), (3, .slice A4 os.length c4), (6, .slice B rs.length d), (7, .int .i64 ((rs.length : Nat) : Int)), (8, .int .i64 i)] ∧ D_ = [row 5 1 (.slice A4 os.length c4) os.length (nums .u8 os), vw B (rowsV rs), vws (rowsL .u8 rs)]) id _ ⟨0, ([] : List Int), none, 0, (by omega), (by omega), (by rfl), (by exact Nat.zero_le _), (by exact In.nil _), (by exact Nat.zero_le _), (by intro h; simp at h), rfl, rfl, rfl⟩ ?_
  rintro n_ _ _ ⟨i, os, A4, c4, hi, hi2, ho, hob, hios, hcos, hAos, rfl, rfl, rfl⟩
  refine RunC.sr ?_
  refine RunR.sl hU [] 1 1 [2, 3, 6, 7, 8, 9] [(2, .slice none 0 0), (3, .slice A4 os.length c4), (6, .slice B rs.length d), (7, .int .i64 ((rs.length : Nat) : Int)), (8, .int .i64 i), (9, .bool (decide (i < ((rs.length : Nat) : Int))))] 1 ?_
  refine RunR.nn ?_
  refine RunC.seq ?_
  refine RunC.condp (i < ((rs.length : Nat) : Int)) (by kernel_rfl) (fun h2 => ?_) (fun h2 => ?_)
  · skip
    refine RunC.ks ?_
    refine RunC.seq ?_
    refine RunC.block ?_
    refine RunC.sr ?_
    refine RunR.sil hU [] 1 1 [2, 3, 6, 7, 8, 10] [(2, .slice none 0 0), (3, .slice A4 os.length c4), (6, .slice B rs.length d), (7, .int .i64 ((rs.length : Nat) : Int)), (8, .int .i64 i), (10, .pointer (elemAt B i 1))] (((0 ≤ i ∧ i < ((rs.length : Nat) : Int)) ∧ Option.isSome B = true) ∧ True) rfl (by kernel_rfl) ⟨⟨by omega, hA1 (by omega)⟩, trivial⟩ ?_
    obtain ⟨Ae3, ce4, xe5, hg6, hr7, hc8, hl9⟩ := row_at (by assumption : RowsOK .u8 rs) (i := (i).toNat) (by omega)
    have hcl10 := cat_at hg6
    refine RunR.st (some 11) (.load 24 (.tmp 10)) (Step.load_vw hU 1 B i 1 (rowsV rs) (.slice Ae3 xe5.length ce4) (by kernel_rfl) (by kernel_rfl) (loadv_row (by kernel_rfl) hg6 (Nat.mul_one _)) (by kernel_rfl) (by rw [rowsV_len]; omega) ?_)
    refine RunR.sl hU [] 1 3 [2, 3, 5, 6, 7, 8] [(2, .slice none 0 0), (3, .slice A4 os.length c4), (5, .slice Ae3 xe5.length ce4), (6, .slice B rs.length d), (7, .int .i64 ((rs.length : Nat) : Int)), (8, .int .i64 i)] 1 ?_
    refine RunR.nx ?_
    refine RunR.sl hU [] 2 2 [2, 3, 6, 7, 8, 12, 13] [(2, .slice none 0 0), (3, .slice A4 os.length c4), (6, .slice B rs.length d), (7, .int .i64 ((rs.length : Nat) : Int)), (8, .int .i64 i), (12, .slice A4 os.length c4), (13, .slice Ae3 xe5.length ce4)] 2 ?_
    refine RunR.st (some 14) (.call { callee := .builtin .append, args := #[.tmp 12, .tmp 13], argTypes := #[24, 24] }) (Step.append_nums hU 5 1 (.int .u8 0) .u8 0 2 A4 os.length c4 os Ae3 xe5.length ce4 (vws (rowsL .u8 rs)) xe5 rfl rfl rfl (by kernel_rfl) (by kernel_rfl) (by kernel_rfl) (by kernel_rfl) (tells_rows hg6) (by rfl) (by rfl) (by omega) (by omega) (by kernel_rfl) (fun Aq11 cq12 hc13 hA14 => ?_))
    have hl15 : (os ++ xe5).length = os.length + xe5.length := List.length_append
    refine RunR.sl hU [] 1 4 [2, 3, 6, 7, 8] [(2, .slice none 0 0), (3, .slice Aq11 ((os ++ xe5).length) cq12), (6, .slice B rs.length d), (7, .int .i64 ((rs.length : Nat) : Int)), (8, .int .i64 i)] 1 ?_
    refine RunR.nn ?_
    refine RunC.block ?_
    refine RunC.env [2, 3, 6, 7, 8] [(2, .slice none 0 0), (3, .slice Aq11 ((os ++ xe5).length) cq12), (6, .slice B rs.length d), (7, .int .i64 ((rs.length : Nat) : Int)), (8, .int .i64 i)] (by kernel_rfl) ?_
    refine RunC.only [0, 0, 0] [row 5 1 (.slice Aq11 ((os ++ xe5).length) cq12) ((os ++ xe5).length) (nums .u8 (os ++ xe5)), vw B (rowsV rs), vws (rowsL .u8 rs)] (by kernel_rfl) ?_
    refine RunC.loop (σ := Nat) (fun n_ t_ D_ => ∃ (j : Nat) (ps : List Int) (A5 : Option Addr) (c5 : Nat), (ps = (os ++ xe5) ++ List.replicate j 0) ∧ (j ≤ (16 - ((os ++ xe5)).length % 16) % 16) ∧ (ps.length = ((os ++ xe5)).length + j) ∧ (In .u8 ps) ∧ (ps.length ≤ c5) ∧ (0 < ps.length → Option.isSome A5 = true) ∧ n_ = (16 - j : Nat) ∧ t_ = [(2, .slice none 0 0), (3, .slice A5 ps.length c5), (6, .slice B rs.length d), (7, .int .i64 ((rs.length : Nat) : Int)), (8, .int .i64 i)] ∧ D_ = [row 5 1 (.slice A5 ps.length c5) ps.length (nums .u8 ps), vw B (rowsV rs), vws (rowsL .u8 rs)]) id _ ⟨0, (os ++ xe5), Aq11, cq12, (by rw [List.replicate_zero, List.append_nil]), (by exact Nat.zero_le _), (by rfl), (by (repeat first | assumption | with_reducible apply In.append)), (by assumption), (fun h => hA14 (by exact h)), rfl, rfl, rfl⟩ ?_
    rintro n_ _ _ ⟨j, ps, A5, c5, hp, hj, hpl, hips, hcps, hAps, rfl, rfl, rfl⟩
    refine RunC.seq ?_
    refine RunC.sr ?_
    refine RunR.sil hU [2] 4 4 [2, 3, 6, 7, 8, 18] [(2, .slice none 0 0), (3, .slice A5 ps.length c5), (6, .slice B rs.length d), (7, .int .i64 ((rs.length : Nat) : Int)), (8, .int .i64 i), (18, .bool (!decide ((((ps.length : Nat) : Int) % (16 : Int)) = 0)))] ((True) ∧ (True) ∧ (0 ≤ ((ps.length : Nat) : Int) ∧ 0 < (16 : Int)) ∧ (True) ∧ True) rfl (by kernel_rfl) ⟨trivial, trivial, (by omega), trivial, trivial⟩ ?_
    refine RunR.nn ?_
    refine RunC.condn ((((ps.length : Nat) : Int) % (16 : Int)) = 0) (by kernel_rfl) (fun h16 => ?_) (fun h16 => ?_)
    · skip
      refine RunC.ks ?_
      refine RunC.block ?_
      refine RunC.region ?_
      refine RunR.sl hU [] 1 1 [2, 3, 6, 7, 8, 19] [(2, .slice none 0 0), (3, .slice A5 ps.length c5), (6, .slice B rs.length d), (7, .int .i64 ((rs.length : Nat) : Int)), (8, .int .i64 i), (19, .slice A5 ps.length c5)] 1 ?_
      refine RunR.st (some 20) (.buildSlice 24 1 #[(0, .const (.int .u8 0))]) (Step.lit_nums hU 5 1 .u8 (.int .u8 0) ([0] : List Int) rfl rfl (by kernel_rfl) rfl rfl (by kernel_rfl) (fun b17 => ?_))
      have hl18 : (([0] : List Int)).length = 1 := rfl
      have hl23 : (([0] : List Int)).length = 1 := rfl
      refine RunR.st (some 21) (.call { callee := .builtin .append, args := #[.tmp 19, .tmp 20], argTypes := #[24, 24] }) (Step.append_nums hU 5 1 (.int .u8 0) .u8 1 0 A5 ps.length c5 ps (some ⟨b17, 0, none⟩) 1 1 (row 5 1 (.slice (some ⟨b17, 0, none⟩) 1 1) 1 (nums .u8 ([0] : List Int))) ([0] : List Int) rfl rfl rfl (by kernel_rfl) (by kernel_rfl) (by kernel_rfl) (by kernel_rfl) (tells_row _ _ _ _ _ _) (by rfl) (by rfl) (by omega) (by omega) (by kernel_rfl) (fun Aq19 cq20 hc21 hA22 => ?_))
      have hl24 : (ps ++ ([0] : List Int)).length = ps.length + ([0] : List Int).length := List.length_append
      simp only [List.length_cons, List.length_nil] at hl24
      refine RunR.sl hU [] 1 4 [2, 3, 6, 7, 8] [(2, .slice none 0 0), (3, .slice Aq19 ((ps ++ ([0] : List Int)).length) cq20), (6, .slice B rs.length d), (7, .int .i64 ((rs.length : Nat) : Int)), (8, .int .i64 i)] 1 ?_
      refine RunR.dn ?_
      refine kblock_n ?_
      refine kloop_n _ [2, 3, 6, 7, 8] [0, 1, 1] [(2, .slice none 0 0), (3, .slice Aq19 ((ps ++ ([0] : List Int)).length) cq20), (6, .slice B rs.length d), (7, .int .i64 ((rs.length : Nat) : Int)), (8, .int .i64 i)] [row 5 1 (.slice Aq19 ((ps ++ ([0] : List Int)).length) cq20) ((ps ++ ([0] : List Int)).length) (nums .u8 (ps ++ ([0] : List Int))), vw B (rowsV rs), vws (rowsL .u8 rs)] (by kernel_rfl) (by kernel_rfl) ?_ ⟨(j + 1), (ps ++ ([0] : List Int)), Aq19, cq20, (by rw [hp, List.append_assoc, List.replicate_succ']), (by omega), (by rw [List.length_append]; simp; omega), (by (repeat first | assumption | (simp only [fits]; omega) | with_reducible first | exact In.nil _ | apply In.append | apply In.cons)), (by assumption), (fun h => hA22 (by exact h)), rfl, (by rfl), (by rfl)⟩
      show (16 - (j + 1) : Nat) < (16 - j : Nat)
      omega
    · skip
      refine RunC.exit ?_
      refine kseq_e ?_
      refine kloop_e ?_
      refine kblock_e ?_
      refine kblock_n ?_
      refine kseq_n ?_
      refine RunC.region ?_
      refine RunR.sil hU [0] 2 2 [2, 3, 6, 7, 8] [(2, .slice none 0 0), (3, .slice A5 ps.length c5), (6, .slice B rs.length d), (7, .int .i64 ((rs.length : Nat) : Int)), (8, .int .i64 (i + 1))] ((-9223372036854775808 ≤ (i + 1) ∧ (i + 1) < 9223372036854775808) ∧ (True) ∧ True) rfl (by kernel_rfl) ⟨(by omega), trivial, trivial⟩ ?_
      refine RunR.dn ?_
      refine kloop_n _ [2, 3, 6, 7, 8] [0, 0, 0] [(2, .slice none 0 0), (3, .slice A5 ps.length c5), (6, .slice B rs.length d), (7, .int .i64 ((rs.length : Nat) : Int)), (8, .int .i64 (i + 1))] [row 5 1 (.slice A5 ps.length c5) ps.length (nums .u8 ps), vw B (rowsV rs), vws (rowsL .u8 rs)] (by kernel_rfl) (by kernel_rfl) ?_ ⟨(i + 1), ps, A5, c5, (by omega), (by assumption), (by have hpe : ps = pads (rs.take (i + 1).toNat) := (by rw [show (i + 1).toNat = i.toNat + 1 by omega]; exact (fill_is hp (by omega) hj).trans (by rw [ho]; exact pads_step (by assumption))); exact hpe), (by have hpe : ps = pads (rs.take (i + 1).toNat) := (by rw [show (i + 1).toNat = i.toNat + 1 by omega]; exact (fill_is hp (by omega) hj).trans (by rw [ho]; exact pads_step (by assumption))); rw [hpe]; exact pads_lim _ _ hrl), hips, (by assumption), (fun h => hAps (by exact h)), rfl, (by rfl), (by rfl)⟩
      show ((rs.length - (i + 1)).toNat : Nat) < ((rs.length - i).toNat : Nat)
      omega
  · skip
    refine RunC.exit ?_
    refine kseq_e ?_
    refine kloop_e ?_
    refine kblock_e ?_
    refine kseq_n ?_
    refine RunC.sr ?_
    refine RunR.sl hU [] 2 2 [2] [(2, .slice A4 os.length c4)] 2 ?_
    refine RunR.nn ?_
    refine RunC.ret ?_
    refine kret_r [.slice A4 os.length c4] [0] [row 5 1 (.slice A4 os.length c4) os.length (nums .u8 os)] ⟨rfl, trivial⟩ (by kernel_rfl) rfl ⟨A4, c4, os, rfl, rfl, (by rw [ho, List.take_of_length_le (by omega)]), (by have := cat_le rs i.toNat; omega), hios, (by assumption), (fun h => hAos (by exact h))⟩
end Go.Proofs.Ytkehpipialmneaa.Z1
