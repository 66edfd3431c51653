/- What these functions compute: a contract for each, walked through its code. -/
import Derived.Test.YtkehpipialmneaaSLzn
import Derived.Test.YtkehpipialmneaaBPure
import Derived.Test.YtkehpipialmneaaProg
import Derived.Test.YtkehpipialmneaaX1
import Derived.Test.YtkehpipialmneaaX2
import Derived.Test.YtkehpipialmneaaX3
import Derived.Test.YtkehpipialmneaaX4
import Derived.Test.YtkehpipialmneaaX5
import Derived.Test.YtkehpipialmneaaX6
import Derived.Test.YtkehpipialmneaaX7
import Derived.Test.YtkehpipialmneaaX8
import Derived.Test.YtkehpipialmneaaX9
import Derived.Test.YtkehpipialmneaaZ1
import Derived.Test.YtkehpipialmneaaZ2
namespace Go.Proofs.Ytkehpipialmneaa.S1
open Go Go.Proofs.Ytkehpipialmneaa.SL Go.Proofs.Ytkehpipialmneaa.SL.W Go.Proofs.Ytkehpipialmneaa.SL.C Go.Proofs.Ytkehpipialmneaa.SL.H Go.Proofs.Ytkehpipialmneaa.SL.M Go.Proofs.Ytkehpipialmneaa.SL.Y Go.Proofs.Ytkehpipialmneaa.SL.A Go.Proofs.Ytkehpipialmneaa.SL.B Go.Proofs.Ytkehpipialmneaa.X1 Go.Proofs.Ytkehpipialmneaa.X2 Go.Proofs.Ytkehpipialmneaa.X3 Go.Proofs.Ytkehpipialmneaa.X4 Go.Proofs.Ytkehpipialmneaa.X5 Go.Proofs.Ytkehpipialmneaa.X6 Go.Proofs.Ytkehpipialmneaa.X7 Go.Proofs.Ytkehpipialmneaa.X8 Go.Proofs.Ytkehpipialmneaa.X9 Go.Proofs.Ytkehpipialmneaa.Z1 Go.Proofs.Ytkehpipialmneaa.Z2
set_option linter.unusedVariables false
set_option linter.unusedSimpArgs false
set_option maxRecDepth 100000
set_option maxHeartbeats 40000000
def U : Tab where
  und := [(3, .int .i64), (5, .int .u8), (9, .string), (24, .slice 5), (73, .int .u64)]
  fld := []
  sz := [(3, 1), (5, 1), (9, 1), (24, 1), (73, 1)]
  ti := [(3, (1, 8, .int .i64 0)), (5, (1, 1, .int .u8 0)), (9, (1, 16, .string ⟨#[]⟩)), (24, (1, 24, .slice none 0 0)), (73, (1, 8, .int .u64 0))]
  bld := []

theorem hU : U.OK Try.prog where
  und := by
    intro p hp
    simp only [U, List.mem_cons, List.not_mem_nil, or_false] at hp
    rcases hp with rfl | rfl | rfl | rfl | rfl
    · exact Try.underlying3
    · exact Try.underlying5
    · exact Try.underlying9
    · exact Try.underlying24
    · exact Try.underlying73
  fld := by
    intro p hp; cases hp
  sz := by
    intro p hp
    simp only [U, List.mem_cons, List.not_mem_nil, or_false] at hp
    rcases hp with rfl | rfl | rfl | rfl | rfl
    · exact ⟨Try.prog.types[3]!, by kernel_rfl, by kernel_rfl⟩
    · exact ⟨Try.prog.types[5]!, by kernel_rfl, by kernel_rfl⟩
    · exact ⟨Try.prog.types[9]!, by kernel_rfl, by kernel_rfl⟩
    · exact ⟨Try.prog.types[24]!, by kernel_rfl, by kernel_rfl⟩
    · exact ⟨Try.prog.types[73]!, by kernel_rfl, by kernel_rfl⟩
  ti := by
    intro p hp
    simp only [U, List.mem_cons, List.not_mem_nil, or_false] at hp
    rcases hp with rfl | rfl | rfl | rfl | rfl
    · exact ⟨Try.prog.types[3]!, by kernel_rfl, by kernel_rfl, by kernel_rfl, by kernel_rfl⟩
    · exact ⟨Try.prog.types[5]!, by kernel_rfl, by kernel_rfl, by kernel_rfl, by kernel_rfl⟩
    · exact ⟨Try.prog.types[9]!, by kernel_rfl, by kernel_rfl, by kernel_rfl, by kernel_rfl⟩
    · exact ⟨Try.prog.types[24]!, by kernel_rfl, by kernel_rfl, by kernel_rfl, by kernel_rfl⟩
    · exact ⟨Try.prog.types[73]!, by kernel_rfl, by kernel_rfl, by kernel_rfl, by kernel_rfl⟩
  bld := by
    intro p hp; cases hp
  mixed := by kernel_rfl

theorem k_may_spec (A : Option Addr) (c : Nat) (u : Nat) (A2 : Option Addr) (c2 : Nat) (v : Nat) :
    CallsS Try.prog 120 [.slice A u c, .slice A2 v c2] [] (fun r D => r = .bool (decide (u = 32 ∧ v = 12)) ∧ D = []) := by
  refine CallsS.enter hU Try.f120 _ [.tmp 4] 13 Try.func120 rfl (by decide) rfl rfl (by kernel_rfl) fun w0 W => ?_
  refine RunC.sr ?_
  refine RunR.sl hU [] 1 1 [0, 1, 4] [(0, .slice A u c), (1, .slice A2 v c2), (4, .bool false)] 1 ?_
  refine RunR.nx ?_
  refine RunR.sl hU [] 4 4 [1, 4, 8] [(1, .slice A2 v c2), (4, .bool false), (8, .bool (decide (((u : Nat) : Int) = 32)))] 4 ?_
  refine RunR.ev [1, 4, 8] [(1, .slice A2 v c2), (4, .bool false), (8, .bool (decide (((u : Nat) : Int) = 32)))] ?_
  by_cases h1 : ((u : Nat) : Int) = 32
  · skip
    refine RunR.enveq [(1, .slice A2 v c2), (4, .bool false), (8, .bool true)] (by rw [decide_eq_true h1]; try rfl) ?_
    refine RunR.sl hU [] 5 9 [4] [(4, .bool (decide (((v : Nat) : Int) = 12)))] 5 ?_
    refine RunR.nn ?_
    refine RunC.ret ?_
    refine kret_r [.bool (decide (((v : Nat) : Int) = 12))] [] [] ⟨rfl, trivial⟩ (by kernel_rfl) rfl ⟨(by (exact congrArg Value.bool (decide_eq_decide.2 (by omega)))), (by rfl)⟩
  · skip
    refine RunR.enveq [(1, .slice A2 v c2), (4, .bool false), (8, .bool false)] (by rw [decide_eq_false h1]; try rfl) ?_
    refine RunR.sl hU [] 5 9 [4] [(4, .bool false)] 2 ?_
    refine RunR.nn ?_
    refine RunC.ret ?_
    refine kret_r [.bool false] [] [] ⟨rfl, trivial⟩ (by kernel_rfl) rfl ⟨(by (exact congrArg Value.bool (decide_eq_false (by omega)).symm)), (by rfl)⟩

theorem k_Clone_spec (A : Option Addr) (c : Nat) (xs : List Int) (l_xs : Nat) (hIxs : In .u8 xs) (hCxs : xs.length ≤ c) (hBxs : xs.length ≤ 140737488351232) (hl_xs : xs.length = l_xs) :
    CallsS Try.prog 124 [.slice A l_xs c] [vw A (nums .u8 xs)] (fun r D => ∃ (A9 : Option Addr) (c9 : Nat) (zs : List Int), r = .slice A9 zs.length c9 ∧ D = [row 5 1 (.slice A9 zs.length c9) zs.length (nums .u8 zs)] ∧ (zs = xs) ∧ (In .u8 zs) ∧ (zs.length ≤ c9) ∧ (0 < zs.length → Option.isSome A9 = true)) := by
  subst hl_xs
  refine CallsS.enter hU Try.f124 _ [.tmp 2] 8 Try.func124 rfl (by decide) rfl rfl (by kernel_rfl) fun w0 W => ?_
  refine RunC.know (p := 0 < xs.length → Option.isSome A = true) (fun _ _ w hs => vw_some hs 0 rfl (by (simp [nums_length]; done))) (fun hA1 => ?_)
  refine RunC.sr ?_
  refine RunR.sl hU [] 1 1 [0, 2] [(0, .slice A xs.length c), (2, .slice none 0 0)] 1 ?_
  refine RunR.nn ?_
  refine RunC.seq ?_
  refine RunC.sr ?_
  refine RunR.sl hU [] 2 2 [0, 2, 4] [(0, .slice A xs.length c), (2, .slice none 0 0), (4, .bool (Option.isNone A))] 2 ?_
  refine RunR.nn ?_
  refine RunC.cond (b := Option.isNone A) (by kernel_rfl) (fun h2 => ?_) (fun h2 => ?_)
  · skip
    refine RunC.sr ?_
    refine RunR.sl hU [] 1 1 [0, 2] [(0, .slice A xs.length c), (2, .slice none 0 0)] 1 ?_
    refine RunR.nn ?_
    refine RunC.ret ?_
    refine kseq_r ?_
    refine kret_rt ([row 5 1 (.slice none 0 0) 0 (nums .u8 ([] : List Int)), vw A (nums .u8 xs)]) (fun w0 W w hs => (hs).nil_row 5 1) [.slice none 0 0] [0] [row 5 1 (.slice none 0 0) 0 (nums .u8 ([] : List Int))] ⟨rfl, trivial⟩ (by kernel_rfl) rfl ⟨none, 0, ([] : List Int), rfl, rfl, (by exact (Go.Proofs.Ytkehpipialmneaa.SL.Y.nil_of_none (by assumption) (by assumption)).symm), (by exact In.nil _), (by exact Nat.le_refl _), (by intro h; simp at h)⟩
  · skip
    refine RunC.ksr ?_
    refine RunR.st (some 5) (.buildSlice 24 0 #[]) (Step.lit_nums hU 5 1 .u8 (.int .u8 0) ([] : List Int) rfl rfl (by kernel_rfl) rfl rfl (by kernel_rfl) (fun b3 => ?_))
    have hl4 : (([] : List Int)).length = 0 := rfl
    refine RunR.sl hU [] 1 2 [2, 5, 6] [(2, .slice none 0 0), (5, .slice (some ⟨b3, 0, none⟩) 0 0), (6, .slice A xs.length c)] 1 ?_
    have hl9 : (([] : List Int)).length = 0 := rfl
    refine RunR.st (some 7) (.call { callee := .builtin .append, args := #[.tmp 5, .tmp 6], argTypes := #[24, 24] }) (Step.append_nums hU 5 1 (.int .u8 0) .u8 0 1 (some ⟨b3, 0, none⟩) 0 0 ([] : List Int) A xs.length c (vw A (nums .u8 xs)) xs rfl rfl rfl (by kernel_rfl) (by kernel_rfl) (by kernel_rfl) (by kernel_rfl) (tells_vw _ _) (by rfl) (by rfl) (by omega) (by omega) (by kernel_rfl) (fun Aq5 cq6 hc7 hA8 => ?_))
    simp only [List.nil_append] at hc7 hA8
    refine RunR.sl hU [] 1 4 [2] [(2, .slice Aq5 xs.length cq6)] 1 ?_
    refine RunR.nn ?_
    refine RunC.ret ?_
    refine kret_r [.slice Aq5 xs.length cq6] [0] [row 5 1 (.slice Aq5 xs.length cq6) xs.length (nums .u8 xs)] ⟨rfl, trivial⟩ (by kernel_rfl) rfl ⟨Aq5, cq6, xs, rfl, rfl, (by rfl), (by assumption), (by assumption), (by assumption)⟩

theorem k_Equal_spec (A : Option Addr) (c : Nat) (xs : List Int) (A2 : Option Addr) (c2 : Nat) (ys : List Int) (l_xs : Nat) (l_ys : Nat) (hIxs : In .u8 xs) (hCxs : xs.length ≤ c) (hBxs : xs.length ≤ 140737488355328) (hIys : In .u8 ys) (hCys : ys.length ≤ c2) (hBys : ys.length ≤ 140737488355328) (hl_xs : xs.length = l_xs) (hl_ys : ys.length = l_ys) :
    CallsS Try.prog 122 [.slice A l_xs c, .slice A2 l_ys c2] [vw A (nums .u8 xs), vw A2 (nums .u8 ys)] (fun r D => r = .bool (decide (xs = ys)) ∧ D = []) := by
  subst hl_xs
  subst hl_ys
  refine CallsS.enter hU Try.f122 _ [.tmp 4] 10 Try.func122 rfl (by decide) rfl rfl (by kernel_rfl) fun w0 W => ?_
  refine RunC.know (p := 0 < xs.length → Option.isSome A = true) (fun _ _ w hs => vw_some hs 0 rfl (by (simp [nums_length]; done))) (fun hA1 => ?_)
  refine RunC.know (p := 0 < ys.length → Option.isSome A2 = true) (fun _ _ w hs => vw_some hs 1 rfl (by (simp [nums_length]; done))) (fun hA2 => ?_)
  refine RunC.sr ?_
  refine RunR.sl hU [] 1 1 [0, 1, 4] [(0, .slice A xs.length c), (1, .slice A2 ys.length c2), (4, .bool false)] 1 ?_
  refine RunR.nx ?_
  refine RunR.sl hU [] 1 1 [1, 4, 5] [(1, .slice A2 ys.length c2), (4, .bool false), (5, .slice A xs.length c)] 1 ?_
  refine RunR.st (some 6) (.convert 24 9 (.tmp 5)) (Step.bytes_str hU 5 0 (vw A (nums .u8 xs)) A xs.length c xs rfl rfl rfl (by kernel_rfl) (by kernel_rfl) (tells_vw _ _) (by rfl) (by kernel_rfl) ?_)
  refine RunR.sl hU [] 1 3 [4, 6, 7] [(4, .bool false), (6, .string (strOfNums xs)), (7, .slice A2 ys.length c2)] 1 ?_
  refine RunR.st (some 8) (.convert 24 9 (.tmp 7)) (Step.bytes_str hU 5 1 (vw A2 (nums .u8 ys)) A2 ys.length c2 ys rfl rfl rfl (by kernel_rfl) (by kernel_rfl) (tells_vw _ _) (by rfl) (by kernel_rfl) ?_)
  refine RunR.sl hU [] 2 6 [4] [(4, .bool (decide ((strOfNums xs) = (strOfNums ys))))] 2 ?_
  refine RunR.nn ?_
  refine RunC.ret ?_
  refine kret_r [.bool (decide ((strOfNums xs) = (strOfNums ys)))] [] [] ⟨rfl, trivial⟩ (by kernel_rfl) rfl ⟨(by (exact congrArg Value.bool (decide_eq_decide.2 ⟨strOfNums_inj hIxs hIys, congrArg _⟩))), (by rfl)⟩

theorem k_bytesOf_spec (n : Int) (m : Int) (hn : 0 ≤ n ∧ n < 9223372036854775808) (hm : 0 ≤ m ∧ m ≤ 140737488351300) :
    CallsS Try.prog 123 [.int .i64 n, .int .i64 m] [] (fun r D => ∃ (A9 : Option Addr) (c9 : Nat) (zs : List Int), r = .slice A9 zs.length c9 ∧ D = [row 5 1 (.slice A9 zs.length c9) zs.length (nums .u8 zs)] ∧ (zs = boxL n m.toNat) ∧ (zs.length = m.toNat) ∧ (In .u8 zs) ∧ (zs.length ≤ c9) ∧ (0 < zs.length → Option.isSome A9 = true)) := by
  refine CallsS.enter hU Try.f123 _ [.tmp 4] 22 Try.func123 rfl (by decide) rfl rfl (by kernel_rfl) fun w0 W => ?_
  refine RunC.sr ?_
  refine RunR.sl hU [] 1 1 [0, 1, 4] [(0, .int .i64 n), (1, .int .i64 m), (4, .slice none 0 0)] 1 ?_
  refine RunR.nx ?_
  refine RunR.sl hU [] 1 1 [0, 1, 4, 7] [(0, .int .i64 n), (1, .int .i64 m), (4, .slice none 0 0), (7, .int .i64 m)] 1 ?_
  refine RunR.st (some 8) (.makeSlice 24 (.tmp 7) (.tmp 7)) (Step.make_nums hU 5 1 .u8 .i64 .i64 (m) rfl rfl (by kernel_rfl) (by kernel_rfl) (by omega) (by omega) (by kernel_rfl) (fun b1 => ?_))
  have hl2 : (List.replicate ((m).toNat) (0 : Int)).length = (m).toNat := List.length_replicate
  refine RunR.sl hU [] 1 3 [0, 1, 4, 5] [(0, .int .i64 n), (1, .int .i64 m), (4, .slice none 0 0), (5, .slice (some ⟨b1, 0, none⟩) ((m).toNat) ((m).toNat))] 1 ?_
  refine RunR.nn ?_
  refine RunC.seq ?_
  refine RunC.sr ?_
  refine RunR.sl hU [] 1 1 [0, 1, 4, 5, 6] [(0, .int .i64 n), (1, .int .i64 m), (4, .slice none 0 0), (5, .slice (some ⟨b1, 0, none⟩) ((m).toNat) ((m).toNat)), (6, .int .i64 0)] 1 ?_
  refine RunR.nn ?_
  refine RunC.block ?_
  refine RunC.env [0, 1, 4, 5, 6] [(0, .int .i64 n), (1, .int .i64 m), (4, .slice none 0 0), (5, .slice (some ⟨b1, 0, none⟩) ((m).toNat) ((m).toNat)), (6, .int .i64 0)] (by kernel_rfl) ?_
  refine RunC.only [0] [row 5 1 (.slice (some ⟨b1, 0, none⟩) ((m).toNat) ((m).toNat)) ((m).toNat) (nums .u8 (List.replicate ((m).toNat) (0 : Int)))] (by kernel_rfl) ?_
  refine RunC.loop (σ := Nat) (fun n_ t_ D_ => ∃ (i : Int) (q : Nat) (zs : List Int) (A9 : Option Addr) (c9 : Nat), (i = 8 * (q : Int)) ∧ (8 * q < m.toNat + 8) ∧ (zs = boxAt n m.toNat q) ∧ (zs.length = m.toNat) ∧ (In .u8 zs) ∧ (m.toNat ≤ c9) ∧ (0 < m.toNat → Option.isSome A9 = true) ∧ n_ = ((m + 8 - i).toNat : Nat) ∧ t_ = [(0, .int .i64 n), (1, .int .i64 m), (4, .slice none 0 0), (5, .slice A9 m.toNat c9), (6, .int .i64 i)] ∧ D_ = [row 5 1 (.slice A9 m.toNat c9) m.toNat (nums .u8 zs)]) id _ ⟨0, 0, (List.replicate ((m).toNat) (0 : Int)), (some ⟨b1, 0, none⟩), ((m).toNat), (by omega), (by omega), (by exact boxAt_0 _ _), (by simp), (by exact In.replicate _ _), (by exact Nat.le_refl _), (fun _ => rfl), rfl, rfl, rfl⟩ ?_
  rintro n_ _ _ ⟨i, q, zs, A9, c9, hi, hq, hz, hzl, hiz, hcz, hAz, rfl, rfl, rfl⟩
  refine RunC.seq ?_
  refine RunC.sr ?_
  refine RunR.sl hU [] 3 3 [0, 1, 4, 5, 6, 11] [(0, .int .i64 n), (1, .int .i64 m), (4, .slice none 0 0), (5, .slice A9 m.toNat c9), (6, .int .i64 i), (11, .bool (decide (i < m)))] 3 ?_
  refine RunR.nn ?_
  refine RunC.condp (i < m) (by kernel_rfl) (fun h3 => ?_) (fun h3 => ?_)
  · skip
    refine RunC.ks ?_
    refine RunC.seq ?_
    refine RunC.block ?_
    refine RunC.regionU hU 7 [] [] [] (bm 7 0) (by kernel_rfl) (by kernel_rfl) (by kernel_rfl) ?_
    refine RunU.sl hU 0 (bm 7 1) 14 (.slice A9 m.toNat c9) ?_
    refine RunU.sl hU 1 (bm 7 3) 15 (.int .i64 i) ?_
    refine RunU.sil hU false 2 (bm 7 7) 16 (.slice (subBase A9 ((i).toNat) c9 1) (m.toNat - ((i).toNat)) (c9 - ((i).toNat))) (0 ≤ i ∧ i ≤ ((m.toNat : Nat) : Int)) (by kernel_rfl) (by omega) (by kernel_rfl) (by kernel_rfl) (fun _ _ _ h => h) ?_
    obtain ⟨zs4, hz5⟩ : ∃ z : List Int, z = (zs.drop ((i).toNat)).take (m.toNat - ((i).toNat)) := ⟨_, rfl⟩
    have hl6 : zs4.length = m.toNat - ((i).toNat) := by rw [hz5, List.length_take, List.length_drop]; omega
    have hB8_t : Tells (row 5 1 (.slice A9 m.toNat c9) m.toNat (nums .u8 zs)) (subBase A9 ((i).toNat) c9 1) (nums .u8 zs4) := by rw [hz5]; exact tells_sub_nums (tells_row _ _ _ _ _ _) _ _ _ (by omega) (by omega)
    have hA9 : 0 < zs4.length → Option.isSome (subBase A9 ((i).toNat) c9 1) = true := fun h => part_some (hAz (by omega)) _ _ _
    refine RunU.ev [0, 1, 4, 5, 6, 11, 14, 15, 16] [(0, .int .i64 n), (1, .int .i64 m), (4, .slice none 0 0), (5, .slice A9 m.toNat c9), (6, .int .i64 i), (11, .bool (decide (i < m))), (14, .slice A9 m.toNat c9), (15, .int .i64 i), (16, .slice (subBase A9 ((i).toNat) c9 1) (m.toNat - ((i).toNat)) (c9 - ((i).toNat)))] ?_
    refine RunU.enveq [(0, .int .i64 n), (1, .int .i64 m), (4, .slice none 0 0), (5, .slice A9 m.toNat c9), (6, .int .i64 i), (11, .bool (decide (i < m))), (14, .slice A9 m.toNat c9), (15, .int .i64 i), (16, .slice (subBase A9 ((i).toNat) c9 1) zs4.length (c9 - ((i).toNat)))] (by rw [hl6]) ?_
    have hr10 : In .u8 zs4 := by rw [hz5]; exact (hiz.drop _).take _
    refine RunU.sl hU 3 (bm 7 15) 17 (.int .i64 n) ?_
    refine RunU.sil hU true 4 (bm 7 31) 18 (.int .u64 n) (0 ≤ n ∧ n < 18446744073709551616) (by kernel_rfl) (by omega) (by kernel_rfl) (by kernel_rfl) (fun _ _ _ h => h) ?_
    refine RunU.on (some 19) (.call { callee := .value (.func 100), args := #[.tmp 18], argTypes := #[73] }) 5 (bm 7 63) [] (Step.cn 100 [.int .u64 n] [] [row 5 1 (.slice A9 m.toNat c9) m.toNat (nums .u8 zs)] (w_Big64_spec n (by (refine ⟨?_, ?_⟩ <;> omega))) [] ?_)
    rintro _ _ ⟨Aq11, cq12, zs13, rfl, rfl, hp14, hp15, hp16, hp17, hp18⟩
    refine orL ?_
    refine RunU.on (some 20) (.call { callee := .builtin .copy, args := #[.tmp 16, .tmp 19], argTypes := #[24, 24] }) 6 (bm 7 127) [] (Step.copy_row hU 5 1 0 ((i).toNat) m.toNat c9 zs4.length (c9 - ((i).toNat)) zs13.length cq12 A9 (subBase A9 ((i).toNat) c9 1) Aq11 zs (row 5 1 (.slice Aq11 zs13.length cq12) zs13.length (nums .u8 zs13)) .u8 zs13 (by kernel_rfl) (by kernel_rfl) (by kernel_rfl) (fun h b e => by rw [e]; rw [sub_at (by omega), Nat.zero_add]) (by kernel_rfl) (by kernel_rfl) (by kernel_rfl) (tells_row _ _ _ _ _ _) (by rfl) (by omega) (by kernel_rfl) ?_)
    have hl19 : (putl zs ((i).toNat) (zs13.take zs4.length)).length = zs.length := putl_len (by simp only [List.length_take]; omega)
    have hr20 : In .u8 (putl zs ((i).toNat) (zs13.take zs4.length)) := hiz.putl (hp16.take _)
    refine orL ?_
    refine RunU.ev [0, 1, 4, 5, 6] [(0, .int .i64 n), (1, .int .i64 m), (4, .slice none 0 0), (5, .slice A9 m.toNat c9), (6, .int .i64 i)] ?_
    refine RunU.dn ?_
    refine kblock_n ?_
    refine kseq_n ?_
    refine RunC.region ?_
    refine RunR.sil hU [1] 3 3 [0, 1, 4, 5, 6] [(0, .int .i64 n), (1, .int .i64 m), (4, .slice none 0 0), (5, .slice A9 m.toNat c9), (6, .int .i64 (i + 8))] ((True) ∧ (-9223372036854775808 ≤ (i + 8) ∧ (i + 8) < 9223372036854775808) ∧ (True) ∧ True) rfl (by kernel_rfl) ⟨trivial, (by omega), trivial, trivial⟩ ?_
    refine RunR.dn ?_
    refine kloop_n _ [0, 1, 4, 5, 6] [0] [(0, .int .i64 n), (1, .int .i64 m), (4, .slice none 0 0), (5, .slice A9 m.toNat c9), (6, .int .i64 (i + 8))] [row 5 1 (.slice A9 m.toNat c9) m.toNat (nums .u8 (putl zs ((i).toNat) (zs13.take zs4.length)))] (by kernel_rfl) (by kernel_rfl) ?_ ⟨(i + 8), (q + 1), (putl zs ((i).toNat) (zs13.take zs4.length)), A9, c9, (by omega), (by omega), (by exact boxAt_step (by omega) hz (by simp only [hz5, hp14]; rfl) (by omega) (by omega)), (by omega), hr20, (by exact hcz), (by exact hAz), rfl, (by rfl), (by rfl)⟩
    show ((m + 8 - (i + 8)).toNat : Nat) < ((m + 8 - i).toNat : Nat)
    omega
  · skip
    refine RunC.exit ?_
    refine kseq_e ?_
    refine kloop_e ?_
    refine kblock_e ?_
    refine kseq_n ?_
    refine RunC.sr ?_
    refine RunR.sl hU [] 2 2 [4] [(4, .slice A9 m.toNat c9)] 2 ?_
    refine RunR.nn ?_
    refine RunC.ret ?_
    refine kret_r [.slice A9 m.toNat c9] [0] [row 5 1 (.slice A9 m.toNat c9) m.toNat (nums .u8 zs)] ⟨rfl, trivial⟩ (by kernel_rfl) rfl ⟨A9, c9, zs, (by (simp only [hzl, retv])), (by (simp only [hzl, retv])), (by exact boxAt_end (by omega) (by omega) hz), (by exact hzl), (by assumption), (by rw [hzl]; exact hcz), (by rw [hzl]; exact hAz)⟩
end Go.Proofs.Ytkehpipialmneaa.S1
