/- What these functions compute: a contract for each, walked through its code. -/
import Derived.Test.YtkehpipialmneaaSLzn
import Derived.Test.YtkehpipialmneaaBPure
import Derived.Test.YtkehpipialmneaaProg
import Derived.Test.YtkehpipialmneaaX1
import Derived.Test.YtkehpipialmneaaX2
import Derived.Test.YtkehpipialmneaaX3
import Derived.Test.YtkehpipialmneaaX4
import Derived.Test.YtkehpipialmneaaX5
import Derived.Test.YtkehpipialmneaaX6
namespace Go.Proofs.Ytkehpipialmneaa.X7
open Go Go.Proofs.Ytkehpipialmneaa.SL Go.Proofs.Ytkehpipialmneaa.SL.W Go.Proofs.Ytkehpipialmneaa.SL.C Go.Proofs.Ytkehpipialmneaa.SL.H Go.Proofs.Ytkehpipialmneaa.SL.M Go.Proofs.Ytkehpipialmneaa.SL.Y Go.Proofs.Ytkehpipialmneaa.SL.A Go.Proofs.Ytkehpipialmneaa.SL.B Go.Proofs.Ytkehpipialmneaa.X1 Go.Proofs.Ytkehpipialmneaa.X2 Go.Proofs.Ytkehpipialmneaa.X3 Go.Proofs.Ytkehpipialmneaa.X4 Go.Proofs.Ytkehpipialmneaa.X5 Go.Proofs.Ytkehpipialmneaa.X6
set_option linter.unusedVariables false
set_option linter.unusedSimpArgs false
set_option maxRecDepth 100000
set_option maxHeartbeats 40000000
def U : Tab where
  und := [(3, .int .i64), (5, .int .u8), (24, .slice 5), (73, .int .u64), (74, .array 5 73), (113, .array 5 73)]
  fld := []
  sz := [(3, 1), (5, 1), (24, 1), (73, 1), (74, 5), (113, 5)]
  ti := [(3, (1, 8, .int .i64 0)), (5, (1, 1, .int .u8 0)), (24, (1, 24, .slice none 0 0)), (73, (1, 8, .int .u64 0)), (74, (5, 40, z5)), (113, (5, 40, z5))]
  bld := []

theorem hU : U.OK Try.prog where
  und := by
    intro p hp
    simp only [U, List.mem_cons, List.not_mem_nil, or_false] at hp
    rcases hp with rfl | rfl | rfl | rfl | rfl | rfl
    · exact Try.underlying3
    · exact Try.underlying5
    · exact Try.underlying24
    · exact Try.underlying73
    · exact Try.underlying74
    · exact Try.underlying113
  fld := by
    intro p hp; cases hp
  sz := by
    intro p hp
    simp only [U, List.mem_cons, List.not_mem_nil, or_false] at hp
    rcases hp with rfl | rfl | rfl | rfl | rfl | rfl
    · exact ⟨Try.prog.types[3]!, by kernel_rfl, by kernel_rfl⟩
    · exact ⟨Try.prog.types[5]!, by kernel_rfl, by kernel_rfl⟩
    · exact ⟨Try.prog.types[24]!, by kernel_rfl, by kernel_rfl⟩
    · exact ⟨Try.prog.types[73]!, by kernel_rfl, by kernel_rfl⟩
    · exact ⟨Try.prog.types[74]!, by kernel_rfl, by kernel_rfl⟩
    · exact ⟨Try.prog.types[113]!, by kernel_rfl, by kernel_rfl⟩
  ti := by
    intro p hp
    simp only [U, List.mem_cons, List.not_mem_nil, or_false] at hp
    rcases hp with rfl | rfl | rfl | rfl | rfl | rfl
    · exact ⟨Try.prog.types[3]!, by kernel_rfl, by kernel_rfl, by kernel_rfl, by kernel_rfl⟩
    · exact ⟨Try.prog.types[5]!, by kernel_rfl, by kernel_rfl, by kernel_rfl, by kernel_rfl⟩
    · exact ⟨Try.prog.types[24]!, by kernel_rfl, by kernel_rfl, by kernel_rfl, by kernel_rfl⟩
    · exact ⟨Try.prog.types[73]!, by kernel_rfl, by kernel_rfl, by kernel_rfl, by kernel_rfl⟩
    · exact ⟨Try.prog.types[74]!, by kernel_rfl, by kernel_rfl, by kernel_rfl, by kernel_rfl⟩
    · exact ⟨Try.prog.types[113]!, by kernel_rfl, by kernel_rfl, by kernel_rfl, by kernel_rfl⟩
  bld := by
    intro p hp; cases hp
  mixed := by kernel_rfl

theorem sl_Chunk_spec (A : Option Addr) (c : Nat) (n : Nat) :
    CallsS Try.prog 51 [.slice A n c, .int .i64 16] [] (fun r D => ∃ (b1 : Nat) (b2 : Nat), r = .func (.func 75) #[] #[pt b1, pt b2] ∧ D = [blk b1 24 [.slice A n c], blk b2 3 [.int .i64 16]]) := by
  refine CallsS.enter hU Try.f51 _ [.tmp 4] 9 Try.func51 rfl (by decide) rfl rfl (by kernel_rfl) fun w0 W => ?_
  refine RunC.sr ?_
  refine RunR.st (some 2) (.box 24 (.tmp 0)) (Step.box (.slice A n c) (by kernel_rfl) (by kernel_rfl) (fun b1 => ?_))
  refine RunR.st (some 3) (.box 3 (.tmp 1)) (Step.box (.int .i64 16) (by kernel_rfl) (by kernel_rfl) (fun b2 => ?_))
  refine RunR.sl hU [] 1 3 [2, 3, 4] [(2, pt b1), (3, pt b2), (4, .nilFunc)] 1 ?_
  refine RunR.nn ?_
  refine RunC.seq ?_
  refine RunC.sr ?_
  refine RunR.st (some 5) (.load 3 (.tmp 3)) (Step.load_blk hU 0 b2 (0) 3 [.int .i64 16] (.int .i64 16) (by kernel_rfl) (by kernel_rfl) (by kernel_rfl) (by kernel_rfl) ?_)
  refine RunR.sl hU [] 1 2 [2, 3, 4, 6] [(2, pt b1), (3, pt b2), (4, .nilFunc), (6, .bool false)] 1 ?_
  refine RunR.nn ?_
  refine RunC.cond (b := false) (by kernel_rfl) (fun h => by cases h) (fun _ => ?_)
  refine RunC.ksr ?_
  refine RunR.sl hU [] 2 2 [4] [(4, .func (.func 75) #[] #[pt b1, pt b2])] 2 ?_
  refine RunR.nn ?_
  refine RunC.ret ?_
  refine kret_r [.func (.func 75) #[] #[pt b1, pt b2]] [1, 0] [blk b1 24 [.slice A n c], blk b2 3 [.int .i64 16]] ⟨rfl, trivial⟩ (by kernel_rfl) rfl ⟨b1, b2, rfl, rfl⟩

theorem sl_ChunkV_spec (A : Option Addr) (c : Nat) (u : Nat) (n : Int) (h1 : 1 ≤ n) :
    CallsS Try.prog 51 [.slice A u c, .int .i64 n] [] (fun r D => ∃ (bi : Nat) (bj : Nat), r = .func (.func 75) #[] #[pt bi, pt bj] ∧ D = [blk bi 24 [.slice A u c], blk bj 3 [.int .i64 n]]) := by
  refine CallsS.enter hU Try.f51 _ [.tmp 4] 9 Try.func51 rfl (by decide) rfl rfl (by kernel_rfl) fun w0 W => ?_
  refine RunC.sr ?_
  refine RunR.st (some 2) (.box 24 (.tmp 0)) (Step.box (.slice A u c) (by kernel_rfl) (by kernel_rfl) (fun b1 => ?_))
  refine RunR.st (some 3) (.box 3 (.tmp 1)) (Step.box (.int .i64 n) (by kernel_rfl) (by kernel_rfl) (fun b2 => ?_))
  refine RunR.sl hU [] 1 3 [2, 3, 4] [(2, pt b1), (3, pt b2), (4, .nilFunc)] 1 ?_
  refine RunR.nn ?_
  refine RunC.seq ?_
  refine RunC.sr ?_
  refine RunR.st (some 5) (.load 3 (.tmp 3)) (Step.load_blk hU 0 b2 (0) 3 [.int .i64 n] (.int .i64 n) (by kernel_rfl) (by kernel_rfl) (by kernel_rfl) (by kernel_rfl) ?_)
  refine RunR.sl hU [] 1 2 [2, 3, 4, 6] [(2, pt b1), (3, pt b2), (4, .nilFunc), (6, .bool (decide (n < 1)))] 1 ?_
  refine RunR.ev [2, 3, 4, 6] [(2, pt b1), (3, pt b2), (4, .nilFunc), (6, .bool (decide (n < 1)))] ?_
  have hk3 : ¬ (n < 1) := by omega
  refine RunR.enveq [(2, pt b1), (3, pt b2), (4, .nilFunc), (6, .bool false)] (by rw [decide_eq_false hk3]; try rfl) ?_
  refine RunR.nn ?_
  refine RunC.cond (b := false) (by kernel_rfl) (fun h => by cases h) (fun _ => ?_)
  refine RunC.ksr ?_
  refine RunR.sl hU [] 2 2 [4] [(4, .func (.func 75) #[] #[pt b1, pt b2])] 2 ?_
  refine RunR.nn ?_
  refine RunC.ret ?_
  refine kret_r [.func (.func 75) #[] #[pt b1, pt b2]] [1, 0] [blk b1 24 [.slice A u c], blk b2 3 [.int .i64 n]] ⟨rfl, trivial⟩ (by kernel_rfl) rfl ⟨b1, b2, rfl, rfl⟩

theorem sl_Clone_spec (A : Option Addr) (c : Nat) (xs : List Int) (l_xs : Nat) (hx : In .u8 xs) (hn : xs.length ≤ 140737488351232) (hl_xs : xs.length = l_xs) :
    CallsS Try.prog 53 [.slice A l_xs c] [vw A (nums .u8 xs)] (fun r D => ∃ (A2 : Option Addr) (c2 : Nat) (zs : List Int), r = .slice A2 zs.length c2 ∧ D = [row 5 1 (.slice A2 zs.length c2) zs.length (nums .u8 zs)] ∧ (zs = xs) ∧ (zs.length = xs.length) ∧ (In .u8 zs) ∧ (zs.length ≤ c2) ∧ (0 < zs.length → Option.isSome A2 = true)) := by
  subst hl_xs
  refine CallsS.enter hU Try.f53 _ [.tmp 2] 8 Try.func53 rfl (by decide) rfl rfl (by kernel_rfl) fun w0 W => ?_
  refine RunC.know (p := 0 < xs.length → Option.isSome A = true) (fun _ _ w hs => vw_some hs 0 rfl (by (simp [nums_length]; done))) (fun hA1 => ?_)
  refine RunC.sr ?_
  refine RunR.sl hU [] 1 1 [0, 2] [(0, .slice A xs.length c), (2, .slice none 0 0)] 1 ?_
  refine RunR.nn ?_
  refine RunC.seq ?_
  refine RunC.sr ?_
  refine RunR.sl hU [] 2 2 [0, 2, 4] [(0, .slice A xs.length c), (2, .slice none 0 0), (4, .bool (Option.isNone A))] 2 ?_
  refine RunR.nn ?_
  refine RunC.cond (b := Option.isNone A) (by kernel_rfl) (fun h2 => ?_) (fun h2 => ?_)
  · skip
    refine RunC.sr ?_
    refine RunR.sl hU [] 1 1 [0, 2] [(0, .slice A xs.length c), (2, .slice none 0 0)] 1 ?_
    refine RunR.nn ?_
    refine RunC.ret ?_
    refine kseq_r ?_
    refine kret_rt ([row 5 1 (.slice none 0 0) 0 (nums .u8 ([] : List Int)), vw A (nums .u8 xs)]) (fun w0 W w hs => (hs).nil_row 5 1) [.slice none 0 0] [0] [row 5 1 (.slice none 0 0) 0 (nums .u8 ([] : List Int))] ⟨rfl, trivial⟩ (by kernel_rfl) rfl ⟨none, 0, ([] : List Int), rfl, rfl, (by exact (nil_of_none (by assumption) (by assumption)).symm), (by rw [nil_of_none (xs := xs) (by assumption) (by assumption)]), (by exact In.nil _), (by exact Nat.le_refl _), (by intro h; simp at h)⟩
  · skip
    refine RunC.ksr ?_
    refine RunR.st (some 5) (.buildSlice 24 0 #[]) (Step.lit_nums hU 5 1 .u8 (.int .u8 0) ([] : List Int) rfl rfl (by kernel_rfl) rfl rfl (by kernel_rfl) (fun b3 => ?_))
    have hl4 : (([] : List Int)).length = 0 := rfl
    refine RunR.sl hU [] 1 2 [2, 5, 6] [(2, .slice none 0 0), (5, .slice (some ⟨b3, 0, none⟩) 0 0), (6, .slice A xs.length c)] 1 ?_
    have hl9 : (([] : List Int)).length = 0 := rfl
    refine RunR.st (some 7) (.call { callee := .builtin .append, args := #[.tmp 5, .tmp 6], argTypes := #[24, 24] }) (Step.append_nums hU 5 1 (.int .u8 0) .u8 0 1 (some ⟨b3, 0, none⟩) 0 0 ([] : List Int) A xs.length c (vw A (nums .u8 xs)) xs rfl rfl rfl (by kernel_rfl) (by kernel_rfl) (by kernel_rfl) (by kernel_rfl) (tells_vw _ _) (by rfl) (by rfl) (by omega) (by omega) (by kernel_rfl) (fun Aq5 cq6 hc7 hA8 => ?_))
    simp only [List.nil_append] at hc7 hA8
    refine RunR.sl hU [] 1 4 [2] [(2, .slice Aq5 xs.length cq6)] 1 ?_
    refine RunR.nn ?_
    refine RunC.ret ?_
    refine kret_r [.slice Aq5 xs.length cq6] [0] [row 5 1 (.slice Aq5 xs.length cq6) xs.length (nums .u8 xs)] ⟨rfl, trivial⟩ (by kernel_rfl) rfl ⟨Aq5, cq6, xs, rfl, rfl, (by rfl), (by rfl), (by exact hx), (by assumption), (by assumption)⟩

theorem y_load_spec (A : Option Addr) (c : Nat) (xs : List Int) (l_xs : Nat) (hx : In .u8 xs) (hn : xs.length ≤ 140737488351232) (hl : xs.length ≤ 17) (hlc : xs.length ≤ c) (hl_xs : xs.length = l_xs) :
    CallsS Try.prog 65 [.slice A l_xs c] [vw A (nums .u8 xs)] (fun r D => ∃ (zs : List Int), r = ag .u64 zs ∧ D = [] ∧ (zs = limbs (leN xs 17)) ∧ (zs.length = 5)) := by
  subst hl_xs
  refine CallsS.enter hU Try.f65 _ [.cell 2 113] 27 Try.func65 rfl (by decide) rfl rfl (by kernel_rfl) fun w0 W => ?_
  refine RunC.know (p := 0 < xs.length → Option.isSome A = true) (fun _ _ w hs => vw_some hs 0 rfl (by (simp [nums_length]; done))) (fun hA1 => ?_)
  refine RunC.sr ?_
  refine RunR.st (some 2) (.alloc 113) (Step.al hU 5 40 z5 (fun b2 => ?_))
  refine RunR.nx ?_
  refine RunR.st (some 3) (.alloc 113) (Step.al hU 5 40 z5 (fun b3 => ?_))
  refine RunR.nn ?_
  refine RunC.seq ?_
  refine RunC.sr ?_
  refine RunR.sl hU [] 1 1 [0, 2, 3, 6] [(0, .slice A xs.length c), (2, pt b2), (3, pt b3), (6, .int .i64 0)] 1 ?_
  refine RunR.nn ?_
  refine RunC.block ?_
  refine RunC.unroll 5 ?_
  refine RunC.sr ?_
  refine RunR.sl hU [] 1 1 [0, 2, 3, 6, 7] [(0, .slice A xs.length c), (2, pt b2), (3, pt b3), (6, .int .i64 0), (7, .bool true)] 1 ?_
  refine RunR.nn ?_
  refine RunC.seq ?_
  refine RunC.cond (b := true) (by kernel_rfl) (fun _ => ?_) (fun h => by cases h)
  refine RunC.ks ?_
  refine RunC.seq ?_
  refine RunC.block ?_
  refine RunC.sr ?_
  refine RunR.sl hU [] 2 2 [0, 2, 3, 4, 6] [(0, .slice A xs.length c), (2, pt b2), (3, pt b3), (4, .int .i64 0), (6, .int .i64 0)] 2 ?_
  refine RunR.nx ?_
  refine RunR.sil hU [1] 3 3 [0, 2, 3, 4, 5, 6] [(0, .slice A xs.length c), (2, pt b2), (3, pt b3), (4, .int .i64 0), (5, .int .i64 0), (6, .int .i64 0)] ((True) ∧ (-9223372036854775808 ≤ ((26 : Int) * 0) ∧ ((26 : Int) * 0) < 9223372036854775808) ∧ (True) ∧ True) rfl (by kernel_rfl) ⟨trivial, (by decide), trivial, trivial⟩ ?_
  refine RunR.nn ?_
  refine RunC.region ?_
  have hm4 : ((if ((xs.length : Nat) : Int) < 0 then ((xs.length : Nat) : Int) else 0) = (0 : Int) ∨ (if ((xs.length : Nat) : Int) < 0 then ((xs.length : Nat) : Int) else 0) = ((xs.length : Nat) : Int)) ∧ (if ((xs.length : Nat) : Int) < 0 then ((xs.length : Nat) : Int) else 0) ≤ (0 : Int) ∧ (if ((xs.length : Nat) : Int) < 0 then ((xs.length : Nat) : Int) else 0) ≤ ((xs.length : Nat) : Int) := by split <;> omega
  refine RunR.sil hU [3] 8 8 [0, 2, 3, 5, 6, 11, 18] [(0, .slice A xs.length c), (2, pt b2), (3, pt b3), (5, .int .i64 0), (6, .int .i64 0), (11, .int .i64 0), (18, .slice (subBase A ((if ((xs.length : Nat) : Int) < 0 then ((xs.length : Nat) : Int) else 0).toNat) c 1) (xs.length - ((if ((xs.length : Nat) : Int) < 0 then ((xs.length : Nat) : Int) else 0).toNat)) (c - ((if ((xs.length : Nat) : Int) < 0 then ((xs.length : Nat) : Int) else 0).toNat)))] ((True) ∧ (True) ∧ (True) ∧ (0 ≤ (0 : Int) ∧ 0 < (8 : Int) ∧ -9223372036854775808 ≤ ((0 : Int) / (8 : Int)) ∧ ((0 : Int) / (8 : Int)) < 9223372036854775808) ∧ (True) ∧ (True) ∧ (True) ∧ (0 ≤ (if ((xs.length : Nat) : Int) < 0 then ((xs.length : Nat) : Int) else 0) ∧ (if ((xs.length : Nat) : Int) < 0 then ((xs.length : Nat) : Int) else 0) ≤ ((xs.length : Nat) : Int)) ∧ True) rfl (by kernel_rfl) ⟨trivial, trivial, trivial, (by decide), trivial, trivial, trivial, (by omega), trivial⟩ ?_
  obtain ⟨zs5, hz6⟩ : ∃ z : List Int, z = (xs.drop ((if ((xs.length : Nat) : Int) < 0 then ((xs.length : Nat) : Int) else 0).toNat)).take (xs.length - ((if ((xs.length : Nat) : Int) < 0 then ((xs.length : Nat) : Int) else 0).toNat)) := ⟨_, rfl⟩
  have hl7 : zs5.length = xs.length - ((if ((xs.length : Nat) : Int) < 0 then ((xs.length : Nat) : Int) else 0).toNat) := by rw [hz6, List.length_take, List.length_drop]; omega
  have hB9_t : Tells (vw A (nums .u8 xs)) (subBase A ((if ((xs.length : Nat) : Int) < 0 then ((xs.length : Nat) : Int) else 0).toNat) c 1) (nums .u8 zs5) := by rw [hz6]; exact tells_sub_nums (tells_vw _ _) _ _ _ (by omega) (by omega)
  have hA10 : 0 < zs5.length → Option.isSome (subBase A ((if ((xs.length : Nat) : Int) < 0 then ((xs.length : Nat) : Int) else 0).toNat) c 1) = true := fun h => part_some (hA1 (by omega)) _ _ _
  refine RunR.ev [0, 2, 3, 5, 6, 11, 18] [(0, .slice A xs.length c), (2, pt b2), (3, pt b3), (5, .int .i64 0), (6, .int .i64 0), (11, .int .i64 0), (18, .slice (subBase A ((if ((xs.length : Nat) : Int) < 0 then ((xs.length : Nat) : Int) else 0).toNat) c 1) (xs.length - ((if ((xs.length : Nat) : Int) < 0 then ((xs.length : Nat) : Int) else 0).toNat)) (c - ((if ((xs.length : Nat) : Int) < 0 then ((xs.length : Nat) : Int) else 0).toNat)))] ?_
  refine RunR.enveq [(0, .slice A xs.length c), (2, pt b2), (3, pt b3), (5, .int .i64 0), (6, .int .i64 0), (11, .int .i64 0), (18, .slice (subBase A ((if ((xs.length : Nat) : Int) < 0 then ((xs.length : Nat) : Int) else 0).toNat) c 1) zs5.length (c - ((if ((xs.length : Nat) : Int) < 0 then ((xs.length : Nat) : Int) else 0).toNat)))] (by rw [hl7]) ?_
  have hr11 : In .u8 zs5 := by rw [hz6]; exact (hx.drop _).take _
  refine RunR.st (some 19) (.call { callee := .value (.func 59), args := #[.tmp 18], argTypes := #[24] }) (Step.cl 59 [.slice (subBase A ((if ((xs.length : Nat) : Int) < 0 then ((xs.length : Nat) : Int) else 0).toNat) c 1) zs5.length (c - ((if ((xs.length : Nat) : Int) < 0 then ((xs.length : Nat) : Int) else 0).toNat))] [] [vw (subBase A ((if ((xs.length : Nat) : Int) < 0 then ((xs.length : Nat) : Int) else 0).toNat) c 1) (nums .u8 zs5)] [blk b3 113 (nums .u64 ([0, 0, 0, 0, 0] : List Int)), blk b2 113 (nums .u64 ([0, 0, 0, 0, 0] : List Int)), vw A (nums .u8 xs)] (w_Get64_spec (subBase A ((if ((xs.length : Nat) : Int) < 0 then ((xs.length : Nat) : Int) else 0).toNat) c 1) (c - ((if ((xs.length : Nat) : Int) < 0 then ((xs.length : Nat) : Int) else 0).toNat)) zs5 zs5.length hr11 (by omega) (by rfl)) [] ((Lend.nil _).tells 2 (vw A (nums .u8 xs)) (subBase A ((if ((xs.length : Nat) : Int) < 0 then ((xs.length : Nat) : Int) else 0).toNat) c 1) (nums .u8 zs5) (by kernel_rfl) (hB9_t)) ?_)
  rintro _ _ ⟨rfl, rfl⟩
  have hm12 := and_le .u64 rfl ((leN zs5 8) / 2 ^ 0) 67108863 (by decide) (by decide)
  refine RunR.sil hU [10, 11] 5 14 [0, 2, 3, 6, 23, 24] [(0, .slice A xs.length c), (2, pt b2), (3, pt b3), (6, .int .i64 0), (23, .int .u64 (bits2 .and .u64 ((leN zs5 8) / 2 ^ 0) 67108863)), (24, pt b3)] ((True) ∧ (0 ≤ (0 : Int) ∧ 0 < (8 : Int)) ∧ (0 ≤ (0 : Int)) ∧ (True) ∧ (0 ≤ (0 : Int) ∧ (0 : Int) < ((5 : Nat) : Int)) ∧ True) rfl (by kernel_rfl) ⟨trivial, (by decide), (by omega), trivial, (by omega), trivial⟩ ?_
  refine RunR.st none (.store 73 (.tmp 24) (.tmp 23)) (Step.store_blknum hU 0 b3 (0) 113 0 .u64 ([0, 0, 0, 0, 0] : List Int) (bits2 .and .u64 ((leN zs5 8) / 2 ^ 0) 67108863) (by kernel_rfl) (by kernel_rfl) (by kernel_rfl) rfl (by omega) (by (simp only [List.length_cons, List.length_nil]; omega)) ?_)
  refine RunR.turn ([blk b3 113 (nums .u64 ([ bits2 .and .u64 ((leN zs5 8) / 2 ^ 0) 67108863, 0, 0, 0, 0] : List Int)), blk b2 113 (nums .u64 ([0, 0, 0, 0, 0] : List Int)), vw A (nums .u8 xs)]) (fun _ _ w hs => hs) ?_
  refine RunR.dn ?_
  refine kblock_n ?_
  refine kseq_n ?_
  refine RunC.region ?_
  refine RunR.sil hU [0] 2 2 [0, 2, 3, 6] [(0, .slice A xs.length c), (2, pt b2), (3, pt b3), (6, .int .i64 1)] ((-9223372036854775808 ≤ ((0 : Int) + 1) ∧ ((0 : Int) + 1) < 9223372036854775808) ∧ (True) ∧ True) rfl (by kernel_rfl) ⟨(by decide), trivial, trivial⟩ ?_
  refine RunR.dn ?_
  refine kround_n ?_
  refine RunC.sr ?_
  refine RunR.sl hU [] 1 1 [0, 2, 3, 6, 7] [(0, .slice A xs.length c), (2, pt b2), (3, pt b3), (6, .int .i64 1), (7, .bool true)] 1 ?_
  refine RunR.nn ?_
  refine RunC.seq ?_
  refine RunC.cond (b := true) (by kernel_rfl) (fun _ => ?_) (fun h => by cases h)
  refine RunC.ks ?_
  refine RunC.seq ?_
  refine RunC.block ?_
  refine RunC.sr ?_
  refine RunR.sl hU [] 2 2 [0, 2, 3, 4, 6] [(0, .slice A xs.length c), (2, pt b2), (3, pt b3), (4, .int .i64 1), (6, .int .i64 1)] 2 ?_
  refine RunR.nx ?_
  refine RunR.sil hU [1] 3 3 [0, 2, 3, 4, 5, 6] [(0, .slice A xs.length c), (2, pt b2), (3, pt b3), (4, .int .i64 1), (5, .int .i64 26), (6, .int .i64 1)] ((True) ∧ (-9223372036854775808 ≤ ((26 : Int) * 1) ∧ ((26 : Int) * 1) < 9223372036854775808) ∧ (True) ∧ True) rfl (by kernel_rfl) ⟨trivial, (by decide), trivial, trivial⟩ ?_
  refine RunR.nn ?_
  refine RunC.region ?_
  have hm13 : ((if ((xs.length : Nat) : Int) < 3 then ((xs.length : Nat) : Int) else 3) = (3 : Int) ∨ (if ((xs.length : Nat) : Int) < 3 then ((xs.length : Nat) : Int) else 3) = ((xs.length : Nat) : Int)) ∧ (if ((xs.length : Nat) : Int) < 3 then ((xs.length : Nat) : Int) else 3) ≤ (3 : Int) ∧ (if ((xs.length : Nat) : Int) < 3 then ((xs.length : Nat) : Int) else 3) ≤ ((xs.length : Nat) : Int) := by split <;> omega
  refine RunR.sil hU [3] 8 8 [0, 2, 3, 5, 6, 11, 18] [(0, .slice A xs.length c), (2, pt b2), (3, pt b3), (5, .int .i64 26), (6, .int .i64 1), (11, .int .i64 1), (18, .slice (subBase A ((if ((xs.length : Nat) : Int) < 3 then ((xs.length : Nat) : Int) else 3).toNat) c 1) (xs.length - ((if ((xs.length : Nat) : Int) < 3 then ((xs.length : Nat) : Int) else 3).toNat)) (c - ((if ((xs.length : Nat) : Int) < 3 then ((xs.length : Nat) : Int) else 3).toNat)))] ((True) ∧ (True) ∧ (True) ∧ (0 ≤ (26 : Int) ∧ 0 < (8 : Int) ∧ -9223372036854775808 ≤ ((26 : Int) / (8 : Int)) ∧ ((26 : Int) / (8 : Int)) < 9223372036854775808) ∧ (True) ∧ (True) ∧ (True) ∧ (0 ≤ (if ((xs.length : Nat) : Int) < 3 then ((xs.length : Nat) : Int) else 3) ∧ (if ((xs.length : Nat) : Int) < 3 then ((xs.length : Nat) : Int) else 3) ≤ ((xs.length : Nat) : Int)) ∧ True) rfl (by kernel_rfl) ⟨trivial, trivial, trivial, (by decide), trivial, trivial, trivial, (by omega), trivial⟩ ?_
  obtain ⟨zs14, hz15⟩ : ∃ z : List Int, z = (xs.drop ((if ((xs.length : Nat) : Int) < 3 then ((xs.length : Nat) : Int) else 3).toNat)).take (xs.length - ((if ((xs.length : Nat) : Int) < 3 then ((xs.length : Nat) : Int) else 3).toNat)) := ⟨_, rfl⟩
  have hl16 : zs14.length = xs.length - ((if ((xs.length : Nat) : Int) < 3 then ((xs.length : Nat) : Int) else 3).toNat) := by rw [hz15, List.length_take, List.length_drop]; omega
  have hB18_t : Tells (vw A (nums .u8 xs)) (subBase A ((if ((xs.length : Nat) : Int) < 3 then ((xs.length : Nat) : Int) else 3).toNat) c 1) (nums .u8 zs14) := by rw [hz15]; exact tells_sub_nums (tells_vw _ _) _ _ _ (by omega) (by omega)
  have hA19 : 0 < zs14.length → Option.isSome (subBase A ((if ((xs.length : Nat) : Int) < 3 then ((xs.length : Nat) : Int) else 3).toNat) c 1) = true := fun h => part_some (hA1 (by omega)) _ _ _
  refine RunR.ev [0, 2, 3, 5, 6, 11, 18] [(0, .slice A xs.length c), (2, pt b2), (3, pt b3), (5, .int .i64 26), (6, .int .i64 1), (11, .int .i64 1), (18, .slice (subBase A ((if ((xs.length : Nat) : Int) < 3 then ((xs.length : Nat) : Int) else 3).toNat) c 1) (xs.length - ((if ((xs.length : Nat) : Int) < 3 then ((xs.length : Nat) : Int) else 3).toNat)) (c - ((if ((xs.length : Nat) : Int) < 3 then ((xs.length : Nat) : Int) else 3).toNat)))] ?_
  refine RunR.enveq [(0, .slice A xs.length c), (2, pt b2), (3, pt b3), (5, .int .i64 26), (6, .int .i64 1), (11, .int .i64 1), (18, .slice (subBase A ((if ((xs.length : Nat) : Int) < 3 then ((xs.length : Nat) : Int) else 3).toNat) c 1) zs14.length (c - ((if ((xs.length : Nat) : Int) < 3 then ((xs.length : Nat) : Int) else 3).toNat)))] (by rw [hl16]) ?_
  have hr20 : In .u8 zs14 := by rw [hz15]; exact (hx.drop _).take _
  refine RunR.st (some 19) (.call { callee := .value (.func 59), args := #[.tmp 18], argTypes := #[24] }) (Step.cl 59 [.slice (subBase A ((if ((xs.length : Nat) : Int) < 3 then ((xs.length : Nat) : Int) else 3).toNat) c 1) zs14.length (c - ((if ((xs.length : Nat) : Int) < 3 then ((xs.length : Nat) : Int) else 3).toNat))] [] [vw (subBase A ((if ((xs.length : Nat) : Int) < 3 then ((xs.length : Nat) : Int) else 3).toNat) c 1) (nums .u8 zs14)] [blk b3 113 (nums .u64 ([ bits2 .and .u64 ((leN zs5 8) / 2 ^ 0) 67108863, 0, 0, 0, 0] : List Int)), blk b2 113 (nums .u64 ([0, 0, 0, 0, 0] : List Int)), vw A (nums .u8 xs)] (w_Get64_spec (subBase A ((if ((xs.length : Nat) : Int) < 3 then ((xs.length : Nat) : Int) else 3).toNat) c 1) (c - ((if ((xs.length : Nat) : Int) < 3 then ((xs.length : Nat) : Int) else 3).toNat)) zs14 zs14.length hr20 (by omega) (by rfl)) [] ((Lend.nil _).tells 2 (vw A (nums .u8 xs)) (subBase A ((if ((xs.length : Nat) : Int) < 3 then ((xs.length : Nat) : Int) else 3).toNat) c 1) (nums .u8 zs14) (by kernel_rfl) (hB18_t)) ?_)
  rintro _ _ ⟨rfl, rfl⟩
  have hm21 := and_le .u64 rfl ((leN zs14 8) / 2 ^ 2) 67108863 (by decide) (by decide)
  refine RunR.sil hU [10, 11] 5 14 [0, 2, 3, 6, 23, 24] [(0, .slice A xs.length c), (2, pt b2), (3, pt b3), (6, .int .i64 1), (23, .int .u64 (bits2 .and .u64 ((leN zs14 8) / 2 ^ 2) 67108863)), (24, .pointer (some ⟨b3, 1, none⟩))] ((True) ∧ (0 ≤ (26 : Int) ∧ 0 < (8 : Int)) ∧ (0 ≤ (2 : Int)) ∧ (True) ∧ (0 ≤ (1 : Int) ∧ (1 : Int) < ((5 : Nat) : Int)) ∧ True) rfl (by kernel_rfl) ⟨trivial, (by decide), (by omega), trivial, (by omega), trivial⟩ ?_
  refine RunR.st none (.store 73 (.tmp 24) (.tmp 23)) (Step.store_blknum hU 0 b3 (1) 113 1 .u64 ([ bits2 .and .u64 ((leN zs5 8) / 2 ^ 0) 67108863, 0, 0, 0, 0] : List Int) (bits2 .and .u64 ((leN zs14 8) / 2 ^ 2) 67108863) (by kernel_rfl) (by kernel_rfl) (by kernel_rfl) rfl (by omega) (by (simp only [List.length_cons, List.length_nil]; omega)) ?_)
  refine RunR.turn ([blk b3 113 (nums .u64 ([ bits2 .and .u64 ((leN zs5 8) / 2 ^ 0) 67108863, bits2 .and .u64 ((leN zs14 8) / 2 ^ 2) 67108863, 0, 0, 0] : List Int)), blk b2 113 (nums .u64 ([0, 0, 0, 0, 0] : List Int)), vw A (nums .u8 xs)]) (fun _ _ w hs => hs) ?_
  refine RunR.dn ?_
  refine kblock_n ?_
  refine kseq_n ?_
  refine RunC.region ?_
  refine RunR.sil hU [0] 2 2 [0, 2, 3, 6] [(0, .slice A xs.length c), (2, pt b2), (3, pt b3), (6, .int .i64 2)] ((-9223372036854775808 ≤ ((1 : Int) + 1) ∧ ((1 : Int) + 1) < 9223372036854775808) ∧ (True) ∧ True) rfl (by kernel_rfl) ⟨(by decide), trivial, trivial⟩ ?_
  refine RunR.dn ?_
  refine kround_n ?_
  refine RunC.sr ?_
  refine RunR.sl hU [] 1 1 [0, 2, 3, 6, 7] [(0, .slice A xs.length c), (2, pt b2), (3, pt b3), (6, .int .i64 2), (7, .bool true)] 1 ?_
  refine RunR.nn ?_
  refine RunC.seq ?_
  refine RunC.cond (b := true) (by kernel_rfl) (fun _ => ?_) (fun h => by cases h)
  refine RunC.ks ?_
  refine RunC.seq ?_
  refine RunC.block ?_
  refine RunC.sr ?_
  refine RunR.sl hU [] 2 2 [0, 2, 3, 4, 6] [(0, .slice A xs.length c), (2, pt b2), (3, pt b3), (4, .int .i64 2), (6, .int .i64 2)] 2 ?_
  refine RunR.nx ?_
  refine RunR.sil hU [1] 3 3 [0, 2, 3, 4, 5, 6] [(0, .slice A xs.length c), (2, pt b2), (3, pt b3), (4, .int .i64 2), (5, .int .i64 52), (6, .int .i64 2)] ((True) ∧ (-9223372036854775808 ≤ ((26 : Int) * 2) ∧ ((26 : Int) * 2) < 9223372036854775808) ∧ (True) ∧ True) rfl (by kernel_rfl) ⟨trivial, (by decide), trivial, trivial⟩ ?_
  refine RunR.nn ?_
  refine RunC.region ?_
  have hm22 : ((if ((xs.length : Nat) : Int) < 6 then ((xs.length : Nat) : Int) else 6) = (6 : Int) ∨ (if ((xs.length : Nat) : Int) < 6 then ((xs.length : Nat) : Int) else 6) = ((xs.length : Nat) : Int)) ∧ (if ((xs.length : Nat) : Int) < 6 then ((xs.length : Nat) : Int) else 6) ≤ (6 : Int) ∧ (if ((xs.length : Nat) : Int) < 6 then ((xs.length : Nat) : Int) else 6) ≤ ((xs.length : Nat) : Int) := by split <;> omega
  refine RunR.sil hU [3] 8 8 [0, 2, 3, 5, 6, 11, 18] [(0, .slice A xs.length c), (2, pt b2), (3, pt b3), (5, .int .i64 52), (6, .int .i64 2), (11, .int .i64 2), (18, .slice (subBase A ((if ((xs.length : Nat) : Int) < 6 then ((xs.length : Nat) : Int) else 6).toNat) c 1) (xs.length - ((if ((xs.length : Nat) : Int) < 6 then ((xs.length : Nat) : Int) else 6).toNat)) (c - ((if ((xs.length : Nat) : Int) < 6 then ((xs.length : Nat) : Int) else 6).toNat)))] ((True) ∧ (True) ∧ (True) ∧ (0 ≤ (52 : Int) ∧ 0 < (8 : Int) ∧ -9223372036854775808 ≤ ((52 : Int) / (8 : Int)) ∧ ((52 : Int) / (8 : Int)) < 9223372036854775808) ∧ (True) ∧ (True) ∧ (True) ∧ (0 ≤ (if ((xs.length : Nat) : Int) < 6 then ((xs.length : Nat) : Int) else 6) ∧ (if ((xs.length : Nat) : Int) < 6 then ((xs.length : Nat) : Int) else 6) ≤ ((xs.length : Nat) : Int)) ∧ True) rfl (by kernel_rfl) ⟨trivial, trivial, trivial, (by decide), trivial, trivial, trivial, (by omega), trivial⟩ ?_
  obtain ⟨zs23, hz24⟩ : ∃ z : List Int, z = (xs.drop ((if ((xs.length : Nat) : Int) < 6 then ((xs.length : Nat) : Int) else 6).toNat)).take (xs.length - ((if ((xs.length : Nat) : Int) < 6 then ((xs.length : Nat) : Int) else 6).toNat)) := ⟨_, rfl⟩
  have hl25 : zs23.length = xs.length - ((if ((xs.length : Nat) : Int) < 6 then ((xs.length : Nat) : Int) else 6).toNat) := by rw [hz24, List.length_take, List.length_drop]; omega
  have hB27_t : Tells (vw A (nums .u8 xs)) (subBase A ((if ((xs.length : Nat) : Int) < 6 then ((xs.length : Nat) : Int) else 6).toNat) c 1) (nums .u8 zs23) := by rw [hz24]; exact tells_sub_nums (tells_vw _ _) _ _ _ (by omega) (by omega)
  have hA28 : 0 < zs23.length → Option.isSome (subBase A ((if ((xs.length : Nat) : Int) < 6 then ((xs.length : Nat) : Int) else 6).toNat) c 1) = true := fun h => part_some (hA1 (by omega)) _ _ _
  refine RunR.ev [0, 2, 3, 5, 6, 11, 18] [(0, .slice A xs.length c), (2, pt b2), (3, pt b3), (5, .int .i64 52), (6, .int .i64 2), (11, .int .i64 2), (18, .slice (subBase A ((if ((xs.length : Nat) : Int) < 6 then ((xs.length : Nat) : Int) else 6).toNat) c 1) (xs.length - ((if ((xs.length : Nat) : Int) < 6 then ((xs.length : Nat) : Int) else 6).toNat)) (c - ((if ((xs.length : Nat) : Int) < 6 then ((xs.length : Nat) : Int) else 6).toNat)))] ?_
  refine RunR.enveq [(0, .slice A xs.length c), (2, pt b2), (3, pt b3), (5, .int .i64 52), (6, .int .i64 2), (11, .int .i64 2), (18, .slice (subBase A ((if ((xs.length : Nat) : Int) < 6 then ((xs.length : Nat) : Int) else 6).toNat) c 1) zs23.length (c - ((if ((xs.length : Nat) : Int) < 6 then ((xs.length : Nat) : Int) else 6).toNat)))] (by rw [hl25]) ?_
  have hr29 : In .u8 zs23 := by rw [hz24]; exact (hx.drop _).take _
  refine RunR.st (some 19) (.call { callee := .value (.func 59), args := #[.tmp 18], argTypes := #[24] }) (Step.cl 59 [.slice (subBase A ((if ((xs.length : Nat) : Int) < 6 then ((xs.length : Nat) : Int) else 6).toNat) c 1) zs23.length (c - ((if ((xs.length : Nat) : Int) < 6 then ((xs.length : Nat) : Int) else 6).toNat))] [] [vw (subBase A ((if ((xs.length : Nat) : Int) < 6 then ((xs.length : Nat) : Int) else 6).toNat) c 1) (nums .u8 zs23)] [blk b3 113 (nums .u64 ([ bits2 .and .u64 ((leN zs5 8) / 2 ^ 0) 67108863, bits2 .and .u64 ((leN zs14 8) / 2 ^ 2) 67108863, 0, 0, 0] : List Int)), blk b2 113 (nums .u64 ([0, 0, 0, 0, 0] : List Int)), vw A (nums .u8 xs)] (w_Get64_spec (subBase A ((if ((xs.length : Nat) : Int) < 6 then ((xs.length : Nat) : Int) else 6).toNat) c 1) (c - ((if ((xs.length : Nat) : Int) < 6 then ((xs.length : Nat) : Int) else 6).toNat)) zs23 zs23.length hr29 (by omega) (by rfl)) [] ((Lend.nil _).tells 2 (vw A (nums .u8 xs)) (subBase A ((if ((xs.length : Nat) : Int) < 6 then ((xs.length : Nat) : Int) else 6).toNat) c 1) (nums .u8 zs23) (by kernel_rfl) (hB27_t)) ?_)
  rintro _ _ ⟨rfl, rfl⟩
  have hm30 := and_le .u64 rfl ((leN zs23 8) / 2 ^ 4) 67108863 (by decide) (by decide)
  refine RunR.sil hU [10, 11] 5 14 [0, 2, 3, 6, 23, 24] [(0, .slice A xs.length c), (2, pt b2), (3, pt b3), (6, .int .i64 2), (23, .int .u64 (bits2 .and .u64 ((leN zs23 8) / 2 ^ 4) 67108863)), (24, .pointer (some ⟨b3, 2, none⟩))] ((True) ∧ (0 ≤ (52 : Int) ∧ 0 < (8 : Int)) ∧ (0 ≤ (4 : Int)) ∧ (True) ∧ (0 ≤ (2 : Int) ∧ (2 : Int) < ((5 : Nat) : Int)) ∧ True) rfl (by kernel_rfl) ⟨trivial, (by decide), (by omega), trivial, (by omega), trivial⟩ ?_
  refine RunR.st none (.store 73 (.tmp 24) (.tmp 23)) (Step.store_blknum hU 0 b3 (2) 113 2 .u64 ([ bits2 .and .u64 ((leN zs5 8) / 2 ^ 0) 67108863, bits2 .and .u64 ((leN zs14 8) / 2 ^ 2) 67108863, 0, 0, 0] : List Int) (bits2 .and .u64 ((leN zs23 8) / 2 ^ 4) 67108863) (by kernel_rfl) (by kernel_rfl) (by kernel_rfl) rfl (by omega) (by (simp only [List.length_cons, List.length_nil]; omega)) ?_)
  refine RunR.turn ([blk b3 113 (nums .u64 ([ bits2 .and .u64 ((leN zs5 8) / 2 ^ 0) 67108863, bits2 .and .u64 ((leN zs14 8) / 2 ^ 2) 67108863, bits2 .and .u64 ((leN zs23 8) / 2 ^ 4) 67108863, 0, 0] : List Int)), blk b2 113 (nums .u64 ([0, 0, 0, 0, 0] : List Int)), vw A (nums .u8 xs)]) (fun _ _ w hs => hs) ?_
  refine RunR.dn ?_
  refine kblock_n ?_
  refine kseq_n ?_
  refine RunC.region ?_
  refine RunR.sil hU [0] 2 2 [0, 2, 3, 6] [(0, .slice A xs.length c), (2, pt b2), (3, pt b3), (6, .int .i64 3)] ((-9223372036854775808 ≤ ((2 : Int) + 1) ∧ ((2 : Int) + 1) < 9223372036854775808) ∧ (True) ∧ True) rfl (by kernel_rfl) ⟨(by decide), trivial, trivial⟩ ?_
  refine RunR.dn ?_
  refine kround_n ?_
  refine RunC.sr ?_
  refine RunR.sl hU [] 1 1 [0, 2, 3, 6, 7] [(0, .slice A xs.length c), (2, pt b2), (3, pt b3), (6, .int .i64 3), (7, .bool true)] 1 ?_
  refine RunR.nn ?_
  refine RunC.seq ?_
  refine RunC.cond (b := true) (by kernel_rfl) (fun _ => ?_) (fun h => by cases h)
  refine RunC.ks ?_
  refine RunC.seq ?_
  refine RunC.block ?_
  refine RunC.sr ?_
  refine RunR.sl hU [] 2 2 [0, 2, 3, 4, 6] [(0, .slice A xs.length c), (2, pt b2), (3, pt b3), (4, .int .i64 3), (6, .int .i64 3)] 2 ?_
  refine RunR.nx ?_
  refine RunR.sil hU [1] 3 3 [0, 2, 3, 4, 5, 6] [(0, .slice A xs.length c), (2, pt b2), (3, pt b3), (4, .int .i64 3), (5, .int .i64 78), (6, .int .i64 3)] ((True) ∧ (-9223372036854775808 ≤ ((26 : Int) * 3) ∧ ((26 : Int) * 3) < 9223372036854775808) ∧ (True) ∧ True) rfl (by kernel_rfl) ⟨trivial, (by decide), trivial, trivial⟩ ?_
  refine RunR.nn ?_
  refine RunC.region ?_
  have hm31 : ((if ((xs.length : Nat) : Int) < 9 then ((xs.length : Nat) : Int) else 9) = (9 : Int) ∨ (if ((xs.length : Nat) : Int) < 9 then ((xs.length : Nat) : Int) else 9) = ((xs.length : Nat) : Int)) ∧ (if ((xs.length : Nat) : Int) < 9 then ((xs.length : Nat) : Int) else 9) ≤ (9 : Int) ∧ (if ((xs.length : Nat) : Int) < 9 then ((xs.length : Nat) : Int) else 9) ≤ ((xs.length : Nat) : Int) := by split <;> omega
  refine RunR.sil hU [3] 8 8 [0, 2, 3, 5, 6, 11, 18] [(0, .slice A xs.length c), (2, pt b2), (3, pt b3), (5, .int .i64 78), (6, .int .i64 3), (11, .int .i64 3), (18, .slice (subBase A ((if ((xs.length : Nat) : Int) < 9 then ((xs.length : Nat) : Int) else 9).toNat) c 1) (xs.length - ((if ((xs.length : Nat) : Int) < 9 then ((xs.length : Nat) : Int) else 9).toNat)) (c - ((if ((xs.length : Nat) : Int) < 9 then ((xs.length : Nat) : Int) else 9).toNat)))] ((True) ∧ (True) ∧ (True) ∧ (0 ≤ (78 : Int) ∧ 0 < (8 : Int) ∧ -9223372036854775808 ≤ ((78 : Int) / (8 : Int)) ∧ ((78 : Int) / (8 : Int)) < 9223372036854775808) ∧ (True) ∧ (True) ∧ (True) ∧ (0 ≤ (if ((xs.length : Nat) : Int) < 9 then ((xs.length : Nat) : Int) else 9) ∧ (if ((xs.length : Nat) : Int) < 9 then ((xs.length : Nat) : Int) else 9) ≤ ((xs.length : Nat) : Int)) ∧ True) rfl (by kernel_rfl) ⟨trivial, trivial, trivial, (by decide), trivial, trivial, trivial, (by omega), trivial⟩ ?_
  obtain ⟨zs32, hz33⟩ : ∃ z : List Int, z = (xs.drop ((if ((xs.length : Nat) : Int) < 9 then ((xs.length : Nat) : Int) else 9).toNat)).take (xs.length - ((if ((xs.length : Nat) : Int) < 9 then ((xs.length : Nat) : Int) else 9).toNat)) := ⟨_, rfl⟩
  have hl34 : zs32.length = xs.length - ((if ((xs.length : Nat) : Int) < 9 then ((xs.length : Nat) : Int) else 9).toNat) := by rw [hz33, List.length_take, List.length_drop]; omega
  have hB36_t : Tells (vw A (nums .u8 xs)) (subBase A ((if ((xs.length : Nat) : Int) < 9 then ((xs.length : Nat) : Int) else 9).toNat) c 1) (nums .u8 zs32) := by rw [hz33]; exact tells_sub_nums (tells_vw _ _) _ _ _ (by omega) (by omega)
  have hA37 : 0 < zs32.length → Option.isSome (subBase A ((if ((xs.length : Nat) : Int) < 9 then ((xs.length : Nat) : Int) else 9).toNat) c 1) = true := fun h => part_some (hA1 (by omega)) _ _ _
  refine RunR.ev [0, 2, 3, 5, 6, 11, 18] [(0, .slice A xs.length c), (2, pt b2), (3, pt b3), (5, .int .i64 78), (6, .int .i64 3), (11, .int .i64 3), (18, .slice (subBase A ((if ((xs.length : Nat) : Int) < 9 then ((xs.length : Nat) : Int) else 9).toNat) c 1) (xs.length - ((if ((xs.length : Nat) : Int) < 9 then ((xs.length : Nat) : Int) else 9).toNat)) (c - ((if ((xs.length : Nat) : Int) < 9 then ((xs.length : Nat) : Int) else 9).toNat)))] ?_
  refine RunR.enveq [(0, .slice A xs.length c), (2, pt b2), (3, pt b3), (5, .int .i64 78), (6, .int .i64 3), (11, .int .i64 3), (18, .slice (subBase A ((if ((xs.length : Nat) : Int) < 9 then ((xs.length : Nat) : Int) else 9).toNat) c 1) zs32.length (c - ((if ((xs.length : Nat) : Int) < 9 then ((xs.length : Nat) : Int) else 9).toNat)))] (by rw [hl34]) ?_
  have hr38 : In .u8 zs32 := by rw [hz33]; exact (hx.drop _).take _
  refine RunR.st (some 19) (.call { callee := .value (.func 59), args := #[.tmp 18], argTypes := #[24] }) (Step.cl 59 [.slice (subBase A ((if ((xs.length : Nat) : Int) < 9 then ((xs.length : Nat) : Int) else 9).toNat) c 1) zs32.length (c - ((if ((xs.length : Nat) : Int) < 9 then ((xs.length : Nat) : Int) else 9).toNat))] [] [vw (subBase A ((if ((xs.length : Nat) : Int) < 9 then ((xs.length : Nat) : Int) else 9).toNat) c 1) (nums .u8 zs32)] [blk b3 113 (nums .u64 ([ bits2 .and .u64 ((leN zs5 8) / 2 ^ 0) 67108863, bits2 .and .u64 ((leN zs14 8) / 2 ^ 2) 67108863, bits2 .and .u64 ((leN zs23 8) / 2 ^ 4) 67108863, 0, 0] : List Int)), blk b2 113 (nums .u64 ([0, 0, 0, 0, 0] : List Int)), vw A (nums .u8 xs)] (w_Get64_spec (subBase A ((if ((xs.length : Nat) : Int) < 9 then ((xs.length : Nat) : Int) else 9).toNat) c 1) (c - ((if ((xs.length : Nat) : Int) < 9 then ((xs.length : Nat) : Int) else 9).toNat)) zs32 zs32.length hr38 (by omega) (by rfl)) [] ((Lend.nil _).tells 2 (vw A (nums .u8 xs)) (subBase A ((if ((xs.length : Nat) : Int) < 9 then ((xs.length : Nat) : Int) else 9).toNat) c 1) (nums .u8 zs32) (by kernel_rfl) (hB36_t)) ?_)
  rintro _ _ ⟨rfl, rfl⟩
  have hm39 := and_le .u64 rfl ((leN zs32 8) / 2 ^ 6) 67108863 (by decide) (by decide)
  refine RunR.sil hU [10, 11] 5 14 [0, 2, 3, 6, 23, 24] [(0, .slice A xs.length c), (2, pt b2), (3, pt b3), (6, .int .i64 3), (23, .int .u64 (bits2 .and .u64 ((leN zs32 8) / 2 ^ 6) 67108863)), (24, .pointer (some ⟨b3, 3, none⟩))] ((True) ∧ (0 ≤ (78 : Int) ∧ 0 < (8 : Int)) ∧ (0 ≤ (6 : Int)) ∧ (True) ∧ (0 ≤ (3 : Int) ∧ (3 : Int) < ((5 : Nat) : Int)) ∧ True) rfl (by kernel_rfl) ⟨trivial, (by decide), (by omega), trivial, (by omega), trivial⟩ ?_
  refine RunR.st none (.store 73 (.tmp 24) (.tmp 23)) (Step.store_blknum hU 0 b3 (3) 113 3 .u64 ([ bits2 .and .u64 ((leN zs5 8) / 2 ^ 0) 67108863, bits2 .and .u64 ((leN zs14 8) / 2 ^ 2) 67108863, bits2 .and .u64 ((leN zs23 8) / 2 ^ 4) 67108863, 0, 0] : List Int) (bits2 .and .u64 ((leN zs32 8) / 2 ^ 6) 67108863) (by kernel_rfl) (by kernel_rfl) (by kernel_rfl) rfl (by omega) (by (simp only [List.length_cons, List.length_nil]; omega)) ?_)
  refine RunR.turn ([blk b3 113 (nums .u64 ([ bits2 .and .u64 ((leN zs5 8) / 2 ^ 0) 67108863, bits2 .and .u64 ((leN zs14 8) / 2 ^ 2) 67108863, bits2 .and .u64 ((leN zs23 8) / 2 ^ 4) 67108863, bits2 .and .u64 ((leN zs32 8) / 2 ^ 6) 67108863, 0] : List Int)), blk b2 113 (nums .u64 ([0, 0, 0, 0, 0] : List Int)), vw A (nums .u8 xs)]) (fun _ _ w hs => hs) ?_
  refine RunR.dn ?_
  refine kblock_n ?_
  refine kseq_n ?_
  refine RunC.region ?_
  refine RunR.sil hU [0] 2 2 [0, 2, 3, 6] [(0, .slice A xs.length c), (2, pt b2), (3, pt b3), (6, .int .i64 4)] ((-9223372036854775808 ≤ ((3 : Int) + 1) ∧ ((3 : Int) + 1) < 9223372036854775808) ∧ (True) ∧ True) rfl (by kernel_rfl) ⟨(by decide), trivial, trivial⟩ ?_
  refine RunR.dn ?_
  refine kround_n ?_
  refine RunC.sr ?_
  refine RunR.sl hU [] 1 1 [0, 2, 3, 6, 7] [(0, .slice A xs.length c), (2, pt b2), (3, pt b3), (6, .int .i64 4), (7, .bool true)] 1 ?_
  refine RunR.nn ?_
  refine RunC.seq ?_
  refine RunC.cond (b := true) (by kernel_rfl) (fun _ => ?_) (fun h => by cases h)
  refine RunC.ks ?_
  refine RunC.seq ?_
  refine RunC.block ?_
  refine RunC.sr ?_
  refine RunR.sl hU [] 2 2 [0, 2, 3, 4, 6] [(0, .slice A xs.length c), (2, pt b2), (3, pt b3), (4, .int .i64 4), (6, .int .i64 4)] 2 ?_
  refine RunR.nx ?_
  refine RunR.sil hU [1] 3 3 [0, 2, 3, 4, 5, 6] [(0, .slice A xs.length c), (2, pt b2), (3, pt b3), (4, .int .i64 4), (5, .int .i64 104), (6, .int .i64 4)] ((True) ∧ (-9223372036854775808 ≤ ((26 : Int) * 4) ∧ ((26 : Int) * 4) < 9223372036854775808) ∧ (True) ∧ True) rfl (by kernel_rfl) ⟨trivial, (by decide), trivial, trivial⟩ ?_
  refine RunR.nn ?_
  refine RunC.region ?_
  have hm40 : ((if ((xs.length : Nat) : Int) < 13 then ((xs.length : Nat) : Int) else 13) = (13 : Int) ∨ (if ((xs.length : Nat) : Int) < 13 then ((xs.length : Nat) : Int) else 13) = ((xs.length : Nat) : Int)) ∧ (if ((xs.length : Nat) : Int) < 13 then ((xs.length : Nat) : Int) else 13) ≤ (13 : Int) ∧ (if ((xs.length : Nat) : Int) < 13 then ((xs.length : Nat) : Int) else 13) ≤ ((xs.length : Nat) : Int) := by split <;> omega
  refine RunR.sil hU [3] 8 8 [0, 2, 3, 5, 6, 11, 18] [(0, .slice A xs.length c), (2, pt b2), (3, pt b3), (5, .int .i64 104), (6, .int .i64 4), (11, .int .i64 4), (18, .slice (subBase A ((if ((xs.length : Nat) : Int) < 13 then ((xs.length : Nat) : Int) else 13).toNat) c 1) (xs.length - ((if ((xs.length : Nat) : Int) < 13 then ((xs.length : Nat) : Int) else 13).toNat)) (c - ((if ((xs.length : Nat) : Int) < 13 then ((xs.length : Nat) : Int) else 13).toNat)))] ((True) ∧ (True) ∧ (True) ∧ (0 ≤ (104 : Int) ∧ 0 < (8 : Int) ∧ -9223372036854775808 ≤ ((104 : Int) / (8 : Int)) ∧ ((104 : Int) / (8 : Int)) < 9223372036854775808) ∧ (True) ∧ (True) ∧ (True) ∧ (0 ≤ (if ((xs.length : Nat) : Int) < 13 then ((xs.length : Nat) : Int) else 13) ∧ (if ((xs.length : Nat) : Int) < 13 then ((xs.length : Nat) : Int) else 13) ≤ ((xs.length : Nat) : Int)) ∧ True) rfl (by kernel_rfl) ⟨trivial, trivial, trivial, (by decide), trivial, trivial, trivial, (by omega), trivial⟩ ?_
  obtain ⟨zs41, hz42⟩ : ∃ z : List Int, z = (xs.drop ((if ((xs.length : Nat) : Int) < 13 then ((xs.length : Nat) : Int) else 13).toNat)).take (xs.length - ((if ((xs.length : Nat) : Int) < 13 then ((xs.length : Nat) : Int) else 13).toNat)) := ⟨_, rfl⟩
  have hl43 : zs41.length = xs.length - ((if ((xs.length : Nat) : Int) < 13 then ((xs.length : Nat) : Int) else 13).toNat) := by rw [hz42, List.length_take, List.length_drop]; omega
  have hB45_t : Tells (vw A (nums .u8 xs)) (subBase A ((if ((xs.length : Nat) : Int) < 13 then ((xs.length : Nat) : Int) else 13).toNat) c 1) (nums .u8 zs41) := by rw [hz42]; exact tells_sub_nums (tells_vw _ _) _ _ _ (by omega) (by omega)
  have hA46 : 0 < zs41.length → Option.isSome (subBase A ((if ((xs.length : Nat) : Int) < 13 then ((xs.length : Nat) : Int) else 13).toNat) c 1) = true := fun h => part_some (hA1 (by omega)) _ _ _
  refine RunR.ev [0, 2, 3, 5, 6, 11, 18] [(0, .slice A xs.length c), (2, pt b2), (3, pt b3), (5, .int .i64 104), (6, .int .i64 4), (11, .int .i64 4), (18, .slice (subBase A ((if ((xs.length : Nat) : Int) < 13 then ((xs.length : Nat) : Int) else 13).toNat) c 1) (xs.length - ((if ((xs.length : Nat) : Int) < 13 then ((xs.length : Nat) : Int) else 13).toNat)) (c - ((if ((xs.length : Nat) : Int) < 13 then ((xs.length : Nat) : Int) else 13).toNat)))] ?_
  refine RunR.enveq [(0, .slice A xs.length c), (2, pt b2), (3, pt b3), (5, .int .i64 104), (6, .int .i64 4), (11, .int .i64 4), (18, .slice (subBase A ((if ((xs.length : Nat) : Int) < 13 then ((xs.length : Nat) : Int) else 13).toNat) c 1) zs41.length (c - ((if ((xs.length : Nat) : Int) < 13 then ((xs.length : Nat) : Int) else 13).toNat)))] (by rw [hl43]) ?_
  have hr47 : In .u8 zs41 := by rw [hz42]; exact (hx.drop _).take _
  refine RunR.st (some 19) (.call { callee := .value (.func 59), args := #[.tmp 18], argTypes := #[24] }) (Step.cl 59 [.slice (subBase A ((if ((xs.length : Nat) : Int) < 13 then ((xs.length : Nat) : Int) else 13).toNat) c 1) zs41.length (c - ((if ((xs.length : Nat) : Int) < 13 then ((xs.length : Nat) : Int) else 13).toNat))] [] [vw (subBase A ((if ((xs.length : Nat) : Int) < 13 then ((xs.length : Nat) : Int) else 13).toNat) c 1) (nums .u8 zs41)] [blk b3 113 (nums .u64 ([ bits2 .and .u64 ((leN zs5 8) / 2 ^ 0) 67108863, bits2 .and .u64 ((leN zs14 8) / 2 ^ 2) 67108863, bits2 .and .u64 ((leN zs23 8) / 2 ^ 4) 67108863, bits2 .and .u64 ((leN zs32 8) / 2 ^ 6) 67108863, 0] : List Int)), blk b2 113 (nums .u64 ([0, 0, 0, 0, 0] : List Int)), vw A (nums .u8 xs)] (w_Get64_spec (subBase A ((if ((xs.length : Nat) : Int) < 13 then ((xs.length : Nat) : Int) else 13).toNat) c 1) (c - ((if ((xs.length : Nat) : Int) < 13 then ((xs.length : Nat) : Int) else 13).toNat)) zs41 zs41.length hr47 (by omega) (by rfl)) [] ((Lend.nil _).tells 2 (vw A (nums .u8 xs)) (subBase A ((if ((xs.length : Nat) : Int) < 13 then ((xs.length : Nat) : Int) else 13).toNat) c 1) (nums .u8 zs41) (by kernel_rfl) (hB45_t)) ?_)
  rintro _ _ ⟨rfl, rfl⟩
  have hm48 := and_le .u64 rfl ((leN zs41 8) / 2 ^ 0) 67108863 (by decide) (by decide)
  refine RunR.sil hU [10, 11] 5 14 [0, 2, 3, 6, 23, 24] [(0, .slice A xs.length c), (2, pt b2), (3, pt b3), (6, .int .i64 4), (23, .int .u64 (bits2 .and .u64 ((leN zs41 8) / 2 ^ 0) 67108863)), (24, .pointer (some ⟨b3, 4, none⟩))] ((True) ∧ (0 ≤ (104 : Int) ∧ 0 < (8 : Int)) ∧ (0 ≤ (0 : Int)) ∧ (True) ∧ (0 ≤ (4 : Int) ∧ (4 : Int) < ((5 : Nat) : Int)) ∧ True) rfl (by kernel_rfl) ⟨trivial, (by decide), (by omega), trivial, (by omega), trivial⟩ ?_
  refine RunR.st none (.store 73 (.tmp 24) (.tmp 23)) (Step.store_blknum hU 0 b3 (4) 113 4 .u64 ([ bits2 .and .u64 ((leN zs5 8) / 2 ^ 0) 67108863, bits2 .and .u64 ((leN zs14 8) / 2 ^ 2) 67108863, bits2 .and .u64 ((leN zs23 8) / 2 ^ 4) 67108863, bits2 .and .u64 ((leN zs32 8) / 2 ^ 6) 67108863, 0] : List Int) (bits2 .and .u64 ((leN zs41 8) / 2 ^ 0) 67108863) (by kernel_rfl) (by kernel_rfl) (by kernel_rfl) rfl (by omega) (by (simp only [List.length_cons, List.length_nil]; omega)) ?_)
  refine RunR.turn ([blk b3 113 (nums .u64 ([ bits2 .and .u64 ((leN zs5 8) / 2 ^ 0) 67108863, bits2 .and .u64 ((leN zs14 8) / 2 ^ 2) 67108863, bits2 .and .u64 ((leN zs23 8) / 2 ^ 4) 67108863, bits2 .and .u64 ((leN zs32 8) / 2 ^ 6) 67108863, bits2 .and .u64 ((leN zs41 8) / 2 ^ 0) 67108863] : List Int)), blk b2 113 (nums .u64 ([0, 0, 0, 0, 0] : List Int)), vw A (nums .u8 xs)]) (fun _ _ w hs => hs) ?_
  refine RunR.dn ?_
  refine kblock_n ?_
  refine kseq_n ?_
  refine RunC.region ?_
  refine RunR.sil hU [0] 2 2 [0, 2, 3, 6] [(0, .slice A xs.length c), (2, pt b2), (3, pt b3), (6, .int .i64 5)] ((-9223372036854775808 ≤ ((4 : Int) + 1) ∧ ((4 : Int) + 1) < 9223372036854775808) ∧ (True) ∧ True) rfl (by kernel_rfl) ⟨(by decide), trivial, trivial⟩ ?_
  refine RunR.dn ?_
  refine kround_n ?_
  refine RunC.sr ?_
  refine RunR.sl hU [] 1 1 [0, 2, 3, 6, 7] [(0, .slice A xs.length c), (2, pt b2), (3, pt b3), (6, .int .i64 5), (7, .bool false)] 1 ?_
  refine RunR.nn ?_
  refine RunC.seq ?_
  refine RunC.cond (b := false) (by kernel_rfl) (fun h => by cases h) (fun _ => ?_)
  refine RunC.exit ?_
  refine kseq_e ?_
  refine kround_e ?_
  refine kblock_e ?_
  refine kseq_n ?_
  refine RunC.sr ?_
  refine RunR.st (some 26) (.load 113 (.tmp 3)) (Step.load_arr hU 0 b3 113 5 .u64 ([ bits2 .and .u64 ((leN zs5 8) / 2 ^ 0) 67108863, bits2 .and .u64 ((leN zs14 8) / 2 ^ 2) 67108863, bits2 .and .u64 ((leN zs23 8) / 2 ^ 4) 67108863, bits2 .and .u64 ((leN zs32 8) / 2 ^ 6) 67108863, bits2 .and .u64 ((leN zs41 8) / 2 ^ 0) 67108863] : List Int) (by kernel_rfl) (by kernel_rfl) (by kernel_rfl) (by kernel_rfl) (by rfl) (by kernel_rfl) ?_)
  refine RunR.st none (.store 113 (.tmp 2) (.tmp 26)) (Step.store_arr hU 1 b2 113 5 .u64 ([0, 0, 0, 0, 0] : List Int) ([ bits2 .and .u64 ((leN zs5 8) / 2 ^ 0) 67108863, bits2 .and .u64 ((leN zs14 8) / 2 ^ 2) 67108863, bits2 .and .u64 ((leN zs23 8) / 2 ^ 4) 67108863, bits2 .and .u64 ((leN zs32 8) / 2 ^ 6) 67108863, bits2 .and .u64 ((leN zs41 8) / 2 ^ 0) 67108863] : List Int) (by kernel_rfl) (by kernel_rfl) (by kernel_rfl) (by kernel_rfl) (by rfl) (by rfl) ?_)
  have hl49 : (([ bits2 .and .u64 ((leN zs5 8) / 2 ^ 0) 67108863, bits2 .and .u64 ((leN zs14 8) / 2 ^ 2) 67108863, bits2 .and .u64 ((leN zs23 8) / 2 ^ 4) 67108863, bits2 .and .u64 ((leN zs32 8) / 2 ^ 6) 67108863, bits2 .and .u64 ((leN zs41 8) / 2 ^ 0) 67108863] : List Int)).length = 5 := rfl
  refine RunR.nn ?_
  refine RunC.ret ?_
  refine kret_r [.agg (nums .u64 ([ bits2 .and .u64 ((leN zs5 8) / 2 ^ 0) 67108863, bits2 .and .u64 ((leN zs14 8) / 2 ^ 2) 67108863, bits2 .and .u64 ((leN zs23 8) / 2 ^ 4) 67108863, bits2 .and .u64 ((leN zs32 8) / 2 ^ 6) 67108863, bits2 .and .u64 ((leN zs41 8) / 2 ^ 0) 67108863] : List Int)).toArray] [] [] ⟨⟨0, b2, 0, 113, nums .u64 ([ bits2 .and .u64 ((leN zs5 8) / 2 ^ 0) 67108863, bits2 .and .u64 ((leN zs14 8) / 2 ^ 2) 67108863, bits2 .and .u64 ((leN zs23 8) / 2 ^ 4) 67108863, bits2 .and .u64 ((leN zs32 8) / 2 ^ 6) 67108863, bits2 .and .u64 ((leN zs41 8) / 2 ^ 0) 67108863] : List Int), rfl, rfl, by kernel_rfl⟩, trivial⟩ (by kernel_rfl) rfl ⟨([ bits2 .and .u64 ((leN zs5 8) / 2 ^ 0) 67108863, bits2 .and .u64 ((leN zs14 8) / 2 ^ 2) 67108863, bits2 .and .u64 ((leN zs23 8) / 2 ^ 4) 67108863, bits2 .and .u64 ((leN zs32 8) / 2 ^ 6) 67108863, bits2 .and .u64 ((leN zs41 8) / 2 ^ 0) 67108863] : List Int), rfl, rfl, (by refine load_end hx hl ?_; simp only [hz6, hz15, hz24, hz33, hz42, cutA xs 0 0 rfl, cutA xs 3 3 rfl, cutA xs 6 6 rfl, cutA xs 9 9 rfl, cutA xs 13 13 rfl, cutT]), (by rfl)⟩

theorem y_add_spec (b : Nat) (xs : List Int) (ys : List Int) (hX : L5 134217728 xs) (hY : L5 134217728 ys) (hlx : xs.length = 5) (hly : ys.length = 5) :
    CallsS Try.prog 66 [pt b, ag .u64 ys] [blk b 113 (nums .u64 xs)] (fun r D => ∃ (zs : List Int), r = .tuple #[] ∧ D = [blk b 113 (nums .u64 zs)] ∧ (zs = addP xs ys 5) ∧ (zs.length = 5)) := by
  refine CallsS.enter hU Try.f66 _ [] 20 Try.func66 rfl (by decide) rfl rfl (by kernel_rfl) fun w0 W => ?_
  refine RunC.sr ?_
  refine RunR.st (some 3) (.box 113 (.tmp 1)) (Step.box (ag .u64 ys) (by kernel_rfl) (by kernel_rfl) (fun b1 => ?_))
  refine RunR.nx ?_
  refine RunR.sl hU [] 1 1 [0, 3, 5] [(0, pt b), (3, pt b1), (5, .int .i64 0)] 1 ?_
  refine RunR.nn ?_
  refine RunC.block ?_
  refine RunC.env [0, 3, 5] [(0, pt b), (3, pt b1), (5, .int .i64 0)] (by kernel_rfl) ?_
  refine RunC.only [1, 0] [blk b 113 (nums .u64 xs), blk b1 113 (nums .u64 ys)] (by kernel_rfl) ?_
  refine RunC.loop (σ := Nat) (fun n_ t_ D_ => ∃ (i : Int) (os : List Int), (0 ≤ i) ∧ (i ≤ 5) ∧ (os = addP xs ys i.toNat) ∧ (os.length = 5) ∧ n_ = ((5 - i).toNat : Nat) ∧ t_ = [(0, pt b), (3, pt b1), (5, .int .i64 i)] ∧ D_ = [blk b 113 (nums .u64 os), blk b1 113 (nums .u64 ys)]) id _ ⟨0, xs, (by omega), (by omega), (by rfl), (by assumption), rfl, rfl, rfl⟩ ?_
  rintro n_ _ _ ⟨i, os, hi, hi5, ho, hol, rfl, rfl, rfl⟩
  refine RunC.sr ?_
  refine RunR.sl hU [] 1 1 [0, 3, 5, 6] [(0, pt b), (3, pt b1), (5, .int .i64 i), (6, .bool (decide (i < 5)))] 1 ?_
  refine RunR.nn ?_
  refine RunC.seq ?_
  refine RunC.condp (i < 5) (by kernel_rfl) (fun h2 => ?_) (fun h2 => ?_)
  · skip
    refine RunC.ks ?_
    refine RunC.seq ?_
    refine RunC.block ?_
    refine RunC.sr ?_
    refine RunR.sl hU [] 2 2 [0, 3, 4, 5] [(0, pt b), (3, pt b1), (4, .int .i64 i), (5, .int .i64 i)] 2 ?_
    refine RunR.nn ?_
    refine RunC.regionU hU 12 [blk b 113 (nums .u64 os), blk b1 113 (nums .u64 ys)] [0, 1] [10, 11] (bm 12 0) (by kernel_rfl) (by kernel_rfl) (by kernel_rfl) ?_
    refine RunU.sl hU 0 (bm 12 1) 8 (pt b) ?_
    refine RunU.sl hU 1 (bm 12 3) 9 (.int .i64 i) ?_
    refine RunU.sl hU 2 (bm 12 7) 10 (pt b) ?_
    refine RunU.sil hU false 3 (bm 12 15) 11 (.pointer (some ⟨b, 0 + (i).toNat * 1, none⟩)) (0 ≤ i ∧ i < ((5 : Nat) : Int)) (by kernel_rfl) (by omega) (by kernel_rfl) (by kernel_rfl) (fun _ _ _ h => h) ?_
    refine RunU.rd 4 (bm 12 31) 12 (.load 73 (.tmp 11)) (.int .u64 (os.getD ((i).toNat) 0)) [0, 1] (Reads.load_blknum hU 0 b (0 + (i).toNat * 1) 113 ((i).toNat) .u64 os rfl (by kernel_rfl) (by kernel_rfl) (by omega) (by omega)) ?_
    refine RunU.sl hU 5 (bm 12 63) 13 (.int .i64 i) ?_
    refine RunU.sil hU false 6 (bm 12 127) 14 (.pointer (some ⟨b1, 0 + (i).toNat * 1, none⟩)) (0 ≤ i ∧ i < ((5 : Nat) : Int)) (by kernel_rfl) (by omega) (by kernel_rfl) (by kernel_rfl) (fun _ _ _ h => h) ?_
    refine RunU.rd 7 (bm 12 255) 15 (.load 73 (.tmp 14)) (.int .u64 (ys.getD ((i).toNat) 0)) [0, 1] (Reads.load_blknum hU 1 b1 (0 + (i).toNat * 1) 113 ((i).toNat) .u64 ys rfl (by kernel_rfl) (by kernel_rfl) (by omega) (by omega)) ?_
    refine RunU.sl hU 8 (bm 12 511) 16 (.int .u64 (IntKind.wrap .u64 ((os.getD ((i).toNat) 0) + (ys.getD ((i).toNat) 0)))) ?_
    refine RunU.sl hU 9 (bm 12 1023) 17 (pt b) ?_
    refine RunU.sil hU false 10 (bm 12 2047) 18 (.pointer (some ⟨b, 0 + (i).toNat * 1, none⟩)) (0 ≤ i ∧ i < ((5 : Nat) : Int)) (by kernel_rfl) (by omega) (by kernel_rfl) (by kernel_rfl) (fun _ _ _ h => h) ?_
    refine RunU.on none (.store 73 (.tmp 18) (.tmp 16)) 11 (bm 12 4095) [] (Step.store_blknum hU 0 b (0 + (i).toNat * 1) 113 ((i).toNat) .u64 os (IntKind.wrap .u64 ((os.getD ((i).toNat) 0) + (ys.getD ((i).toNat) 0))) (by kernel_rfl) (by kernel_rfl) (by kernel_rfl) rfl (by omega) (by omega) ?_)
    have hl3 : (os.set ((i).toNat) (IntKind.wrap .u64 ((os.getD ((i).toNat) 0) + (ys.getD ((i).toNat) 0)))).length = os.length := List.length_set
    refine orR ?_
    refine RunU.ev [0, 3, 5] [(0, pt b), (3, pt b1), (5, .int .i64 i)] ?_
    refine RunU.dn ?_
    refine kblock_n ?_
    refine kseq_n ?_
    refine RunC.region ?_
    refine RunR.sil hU [0] 2 2 [0, 3, 5] [(0, pt b), (3, pt b1), (5, .int .i64 (i + 1))] ((-9223372036854775808 ≤ (i + 1) ∧ (i + 1) < 9223372036854775808) ∧ (True) ∧ True) rfl (by kernel_rfl) ⟨(by omega), trivial, trivial⟩ ?_
    refine RunR.dn ?_
    refine kloop_n _ [0, 3, 5] [0, 0] [(0, pt b), (3, pt b1), (5, .int .i64 (i + 1))] [blk b 113 (nums .u64 (os.set ((i).toNat) (IntKind.wrap .u64 ((os.getD ((i).toNat) 0) + (ys.getD ((i).toNat) 0))))), blk b1 113 (nums .u64 ys)] (by kernel_rfl) (by kernel_rfl) ?_ ⟨(i + 1), (os.set ((i).toNat) (IntKind.wrap .u64 ((os.getD ((i).toNat) 0) + (ys.getD ((i).toNat) 0)))), (by omega), (by assumption), (by rw [show (i + 1).toNat = i.toNat + 1 by omega]; exact addP_step hX hY (by omega) ho), (by rw [List.length_set]; exact hol), rfl, (by rfl), (by rfl)⟩
    show ((5 - (i + 1)).toNat : Nat) < ((5 - i).toNat : Nat)
    omega
  · skip
    refine RunC.exit ?_
    refine kseq_e ?_
    refine kloop_e ?_
    refine kblock_e ?_
    refine kret_n [] [0] [blk b 113 (nums .u64 os)] trivial (by kernel_rfl) rfl ⟨os, rfl, rfl, (by rw [ho, show i = 5 by omega] <;> rfl), (by exact hol)⟩

theorem y_carry_spec (b : Nat) (xs : List Int) (hX : L5 1152921504606846976 xs) (hlx : xs.length = 5) :
    CallsS Try.prog 91 [pt b] [blk b 113 (nums .u64 xs)] (fun r D => ∃ (zs : List Int), r = .tuple #[] ∧ D = [blk b 113 (nums .u64 zs)] ∧ (zs = kR xs) ∧ (zs.length = 5)) := by
  refine CallsS.enter hU Try.f91 _ [] 59 Try.func91 rfl (by decide) rfl rfl (by kernel_rfl) fun w0 W => ?_
  refine RunC.sr ?_
  refine RunR.sl hU [] 1 1 [0, 2] [(0, pt b), (2, .int .u64 0)] 1 ?_
  refine RunR.nn ?_
  refine RunC.seq ?_
  refine RunC.sr ?_
  refine RunR.sl hU [] 1 1 [0, 2, 4] [(0, pt b), (2, .int .u64 0), (4, .int .i64 0)] 1 ?_
  refine RunR.nn ?_
  refine RunC.block ?_
  refine RunC.env [0, 2, 4] [(0, pt b), (2, .int .u64 0), (4, .int .i64 0)] (by kernel_rfl) ?_
  refine RunC.only [0] [blk b 113 (nums .u64 xs)] (by kernel_rfl) ?_
  refine RunC.loop (σ := Nat) (fun n_ t_ D_ => ∃ (i : Int) (os : List Int) (c : Int), (0 ≤ i) ∧ (i ≤ 5) ∧ (os = kL xs i.toNat) ∧ (c = kC xs i.toNat) ∧ (os.length = 5) ∧ n_ = ((5 - i).toNat : Nat) ∧ t_ = [(0, pt b), (2, .int .u64 c), (4, .int .i64 i)] ∧ D_ = [blk b 113 (nums .u64 os)]) id _ ⟨0, xs, 0, (by omega), (by omega), (by rfl), (by rfl), (by assumption), rfl, rfl, rfl⟩ ?_
  rintro n_ _ _ ⟨i, os, c, hi, hi5, ho, hc, hol, rfl, rfl, rfl⟩
  refine RunC.sr ?_
  refine RunR.sl hU [] 1 1 [0, 2, 4, 5] [(0, pt b), (2, .int .u64 c), (4, .int .i64 i), (5, .bool (decide (i < 5)))] 1 ?_
  refine RunR.nn ?_
  refine RunC.seq ?_
  refine RunC.condp (i < 5) (by kernel_rfl) (fun h1 => ?_) (fun h1 => ?_)
  · skip
    refine RunC.ks ?_
    refine RunC.seq ?_
    refine RunC.block ?_
    refine RunC.sr ?_
    refine RunR.sl hU [] 2 2 [0, 2, 3, 4] [(0, pt b), (2, .int .u64 c), (3, .int .i64 i), (4, .int .i64 i)] 2 ?_
    refine RunR.nn ?_
    refine RunC.seq ?_
    refine RunC.regionU hU 10 [blk b 113 (nums .u64 os)] [0] [8, 9] (bm 10 0) (by kernel_rfl) (by kernel_rfl) (by kernel_rfl) ?_
    refine RunU.sl hU 0 (bm 10 1) 7 (pt b) ?_
    refine RunU.sl hU 1 (bm 10 3) 8 (.int .i64 i) ?_
    refine RunU.sl hU 2 (bm 10 7) 9 (pt b) ?_
    refine RunU.sil hU false 3 (bm 10 15) 10 (.pointer (some ⟨b, 0 + (i).toNat * 1, none⟩)) (0 ≤ i ∧ i < ((5 : Nat) : Int)) (by kernel_rfl) (by omega) (by kernel_rfl) (by kernel_rfl) (fun _ _ _ h => h) ?_
    refine RunU.rd 4 (bm 10 31) 11 (.load 73 (.tmp 10)) (.int .u64 (os.getD ((i).toNat) 0)) [0] (Reads.load_blknum hU 0 b (0 + (i).toNat * 1) 113 ((i).toNat) .u64 os rfl (by kernel_rfl) (by kernel_rfl) (by omega) (by omega)) ?_
    refine RunU.sl hU 5 (bm 10 63) 12 (.int .u64 c) ?_
    refine RunU.sl hU 6 (bm 10 127) 13 (.int .u64 (IntKind.wrap .u64 ((os.getD ((i).toNat) 0) + c))) ?_
    refine RunU.sl hU 7 (bm 10 255) 14 (pt b) ?_
    refine RunU.sil hU false 8 (bm 10 511) 15 (.pointer (some ⟨b, 0 + (i).toNat * 1, none⟩)) (0 ≤ i ∧ i < ((5 : Nat) : Int)) (by kernel_rfl) (by omega) (by kernel_rfl) (by kernel_rfl) (fun _ _ _ h => h) ?_
    refine RunU.on none (.store 73 (.tmp 15) (.tmp 13)) 9 (bm 10 1023) [] (Step.store_blknum hU 0 b (0 + (i).toNat * 1) 113 ((i).toNat) .u64 os (IntKind.wrap .u64 ((os.getD ((i).toNat) 0) + c)) (by kernel_rfl) (by kernel_rfl) (by kernel_rfl) rfl (by omega) (by omega) ?_)
    have hl2 : (os.set ((i).toNat) (IntKind.wrap .u64 ((os.getD ((i).toNat) 0) + c))).length = os.length := List.length_set
    refine orR ?_
    refine RunU.ev [0, 2, 3, 4] [(0, pt b), (2, .int .u64 c), (3, .int .i64 i), (4, .int .i64 i)] ?_
    refine RunU.dn ?_
    refine kseq_n ?_
    refine RunC.sr ?_
    refine RunR.sil hU [] 4 4 [0, 2, 3, 4, 19] [(0, pt b), (2, .int .u64 c), (3, .int .i64 i), (4, .int .i64 i), (19, .pointer (some ⟨b, 0 + (i).toNat * 1, none⟩))] ((True) ∧ (True) ∧ (True) ∧ (0 ≤ i ∧ i < ((5 : Nat) : Int)) ∧ True) rfl (by kernel_rfl) ⟨trivial, trivial, trivial, (by omega), trivial⟩ ?_
    refine RunR.st (some 20) (.load 73 (.tmp 19)) (Step.load_blknum hU 0 b (0 + (i).toNat * 1) 113 ((i).toNat) .u64 (os.set ((i).toNat) (IntKind.wrap .u64 ((os.getD ((i).toNat) 0) + c))) rfl (by kernel_rfl) (by kernel_rfl) (by kernel_rfl) (by omega) (by omega) ?_)
    refine RunR.sil hU [5] 2 7 [0, 2, 3, 4] [(0, pt b), (2, .int .u64 (((os.set ((i).toNat) (IntKind.wrap .u64 ((os.getD ((i).toNat) 0) + c))).getD ((i).toNat) 0) / 2 ^ 26)), (3, .int .i64 i), (4, .int .i64 i)] ((0 ≤ (26 : Int)) ∧ (True) ∧ True) rfl (by kernel_rfl) ⟨(by omega), trivial, trivial⟩ ?_
    refine RunR.nn ?_
    refine RunC.regionU hU 9 [blk b 113 (nums .u64 (os.set ((i).toNat) (IntKind.wrap .u64 ((os.getD ((i).toNat) 0) + c))))] [0] [7, 8] (bm 9 0) (by kernel_rfl) (by kernel_rfl) (by kernel_rfl) ?_
    refine RunU.sl hU 0 (bm 9 1) 22 (pt b) ?_
    refine RunU.sl hU 1 (bm 9 3) 23 (.int .i64 i) ?_
    refine RunU.sl hU 2 (bm 9 7) 24 (pt b) ?_
    refine RunU.sil hU false 3 (bm 9 15) 25 (.pointer (some ⟨b, 0 + (i).toNat * 1, none⟩)) (0 ≤ i ∧ i < ((5 : Nat) : Int)) (by kernel_rfl) (by omega) (by kernel_rfl) (by kernel_rfl) (fun _ _ _ h => h) ?_
    refine RunU.rd 4 (bm 9 31) 26 (.load 73 (.tmp 25)) (.int .u64 ((os.set ((i).toNat) (IntKind.wrap .u64 ((os.getD ((i).toNat) 0) + c))).getD ((i).toNat) 0)) [0] (Reads.load_blknum hU 0 b (0 + (i).toNat * 1) 113 ((i).toNat) .u64 (os.set ((i).toNat) (IntKind.wrap .u64 ((os.getD ((i).toNat) 0) + c))) rfl (by kernel_rfl) (by kernel_rfl) (by omega) (by omega)) ?_
    have hm3 := and_le .u64 rfl ((os.set ((i).toNat) (IntKind.wrap .u64 ((os.getD ((i).toNat) 0) + c))).getD ((i).toNat) 0) 67108863 (by decide) (by decide)
    refine RunU.sl hU 5 (bm 9 63) 27 (.int .u64 (bits2 .and .u64 ((os.set ((i).toNat) (IntKind.wrap .u64 ((os.getD ((i).toNat) 0) + c))).getD ((i).toNat) 0) 67108863)) ?_
    refine RunU.sl hU 6 (bm 9 127) 28 (pt b) ?_
    refine RunU.sil hU false 7 (bm 9 255) 29 (.pointer (some ⟨b, 0 + (i).toNat * 1, none⟩)) (0 ≤ i ∧ i < ((5 : Nat) : Int)) (by kernel_rfl) (by omega) (by kernel_rfl) (by kernel_rfl) (fun _ _ _ h => h) ?_
    refine RunU.on none (.store 73 (.tmp 29) (.tmp 27)) 8 (bm 9 511) [] (Step.store_blknum hU 0 b (0 + (i).toNat * 1) 113 ((i).toNat) .u64 (os.set ((i).toNat) (IntKind.wrap .u64 ((os.getD ((i).toNat) 0) + c))) (bits2 .and .u64 ((os.set ((i).toNat) (IntKind.wrap .u64 ((os.getD ((i).toNat) 0) + c))).getD ((i).toNat) 0) 67108863) (by kernel_rfl) (by kernel_rfl) (by kernel_rfl) rfl (by omega) (by omega) ?_)
    have hl4 : ((os.set ((i).toNat) (IntKind.wrap .u64 ((os.getD ((i).toNat) 0) + c))).set ((i).toNat) (bits2 .and .u64 ((os.set ((i).toNat) (IntKind.wrap .u64 ((os.getD ((i).toNat) 0) + c))).getD ((i).toNat) 0) 67108863)).length = (os.set ((i).toNat) (IntKind.wrap .u64 ((os.getD ((i).toNat) 0) + c))).length := List.length_set
    refine orR ?_
    refine RunU.ev [0, 2, 4] [(0, pt b), (2, .int .u64 (((os.set ((i).toNat) (IntKind.wrap .u64 ((os.getD ((i).toNat) 0) + c))).getD ((i).toNat) 0) / 2 ^ 26)), (4, .int .i64 i)] ?_
    refine RunU.dn ?_
    refine kblock_n ?_
    refine kseq_n ?_
    refine RunC.region ?_
    refine RunR.sil hU [0] 2 2 [0, 2, 4] [(0, pt b), (2, .int .u64 (((os.set ((i).toNat) (IntKind.wrap .u64 ((os.getD ((i).toNat) 0) + c))).getD ((i).toNat) 0) / 2 ^ 26)), (4, .int .i64 (i + 1))] ((-9223372036854775808 ≤ (i + 1) ∧ (i + 1) < 9223372036854775808) ∧ (True) ∧ True) rfl (by kernel_rfl) ⟨(by omega), trivial, trivial⟩ ?_
    refine RunR.dn ?_
    refine kloop_n _ [0, 2, 4] [0] [(0, pt b), (2, .int .u64 (((os.set ((i).toNat) (IntKind.wrap .u64 ((os.getD ((i).toNat) 0) + c))).getD ((i).toNat) 0) / 2 ^ 26)), (4, .int .i64 (i + 1))] [blk b 113 (nums .u64 ((os.set ((i).toNat) (IntKind.wrap .u64 ((os.getD ((i).toNat) 0) + c))).set ((i).toNat) (bits2 .and .u64 ((os.set ((i).toNat) (IntKind.wrap .u64 ((os.getD ((i).toNat) 0) + c))).getD ((i).toNat) 0) 67108863)))] (by kernel_rfl) (by kernel_rfl) ?_ ⟨(i + 1), ((os.set ((i).toNat) (IntKind.wrap .u64 ((os.getD ((i).toNat) 0) + c))).set ((i).toNat) (bits2 .and .u64 ((os.set ((i).toNat) (IntKind.wrap .u64 ((os.getD ((i).toNat) 0) + c))).getD ((i).toNat) 0) 67108863)), (((os.set ((i).toNat) (IntKind.wrap .u64 ((os.getD ((i).toNat) 0) + c))).getD ((i).toNat) 0) / 2 ^ 26), (by omega), (by assumption), (by rw [show (i + 1).toNat = i.toNat + 1 by omega]; exact (k_step hX (by omega) ho hc).1), (by rw [show (i + 1).toNat = i.toNat + 1 by omega]; exact (k_step hX (by omega) ho hc).2), (by rw [List.length_set, List.length_set]; exact hol), rfl, (by rfl), (by rfl)⟩
    show ((5 - (i + 1)).toNat : Nat) < ((5 - i).toNat : Nat)
    omega
  · skip
    refine RunC.exit ?_
    refine kseq_e ?_
    refine kloop_e ?_
    refine kblock_e ?_
    refine kseq_n ?_
    refine RunC.seq ?_
    refine RunC.regionU hU 10 [blk b 113 (nums .u64 os)] [0] [8, 9] (bm 10 0) (by kernel_rfl) (by kernel_rfl) (by kernel_rfl) ?_
    refine RunU.sl hU 0 (bm 10 1) 31 (pt b) ?_
    refine RunU.sl hU 1 (bm 10 3) 32 (pt b) ?_
    refine RunU.sil hU false 2 (bm 10 7) 33 (pt b) (0 ≤ (0 : Int) ∧ (0 : Int) < ((5 : Nat) : Int)) (by kernel_rfl) (by omega) (by kernel_rfl) (by kernel_rfl) (fun _ _ _ h => h) ?_
    refine RunU.rd 3 (bm 10 15) 34 (.load 73 (.tmp 33)) (.int .u64 (os.getD 0 0)) [0] (Reads.load_blknum hU 0 b (0) 113 0 .u64 os rfl (by kernel_rfl) (by kernel_rfl) (by omega) (by omega)) ?_
    refine RunU.sl hU 4 (bm 10 31) 35 (.int .u64 c) ?_
    refine RunU.sl hU 5 (bm 10 63) 36 (.int .u64 (IntKind.wrap .u64 (5 * c))) ?_
    refine RunU.sl hU 6 (bm 10 127) 37 (.int .u64 (IntKind.wrap .u64 ((os.getD 0 0) + (IntKind.wrap .u64 (5 * c))))) ?_
    refine RunU.sl hU 7 (bm 10 255) 38 (pt b) ?_
    refine RunU.sil hU false 8 (bm 10 511) 39 (pt b) (0 ≤ (0 : Int) ∧ (0 : Int) < ((5 : Nat) : Int)) (by kernel_rfl) (by omega) (by kernel_rfl) (by kernel_rfl) (fun _ _ _ h => h) ?_
    refine RunU.on none (.store 73 (.tmp 39) (.tmp 37)) 9 (bm 10 1023) [] (Step.store_blknum hU 0 b (0) 113 0 .u64 os (IntKind.wrap .u64 ((os.getD 0 0) + (IntKind.wrap .u64 (5 * c)))) (by kernel_rfl) (by kernel_rfl) (by kernel_rfl) rfl (by omega) (by omega) ?_)
    have hl5 : (os.set 0 (IntKind.wrap .u64 ((os.getD 0 0) + (IntKind.wrap .u64 (5 * c))))).length = os.length := List.length_set
    refine orR ?_
    refine RunU.ev [0] [(0, pt b)] ?_
    refine RunU.dn ?_
    refine kseq_n ?_
    refine RunC.seq ?_
    refine RunC.regionU hU 13 [blk b 113 (nums .u64 (os.set 0 (IntKind.wrap .u64 ((os.getD 0 0) + (IntKind.wrap .u64 (5 * c))))))] [0] [11, 12] (bm 13 0) (by kernel_rfl) (by kernel_rfl) (by kernel_rfl) ?_
    refine RunU.sl hU 0 (bm 13 1) 40 (pt b) ?_
    refine RunU.sl hU 1 (bm 13 3) 41 (pt b) ?_
    refine RunU.sil hU false 2 (bm 13 7) 42 (.pointer (some ⟨b, 1, none⟩)) (0 ≤ (1 : Int) ∧ (1 : Int) < ((5 : Nat) : Int)) (by kernel_rfl) (by omega) (by kernel_rfl) (by kernel_rfl) (fun _ _ _ h => h) ?_
    refine RunU.rd 3 (bm 13 15) 43 (.load 73 (.tmp 42)) (.int .u64 ((os.set 0 (IntKind.wrap .u64 ((os.getD 0 0) + (IntKind.wrap .u64 (5 * c))))).getD 1 0)) [0] (Reads.load_blknum hU 0 b (1) 113 1 .u64 (os.set 0 (IntKind.wrap .u64 ((os.getD 0 0) + (IntKind.wrap .u64 (5 * c))))) rfl (by kernel_rfl) (by kernel_rfl) (by omega) (by omega)) ?_
    refine RunU.sl hU 4 (bm 13 31) 44 (pt b) ?_
    refine RunU.sl hU 5 (bm 13 63) 45 (pt b) ?_
    refine RunU.sil hU false 6 (bm 13 127) 46 (pt b) (0 ≤ (0 : Int) ∧ (0 : Int) < ((5 : Nat) : Int)) (by kernel_rfl) (by omega) (by kernel_rfl) (by kernel_rfl) (fun _ _ _ h => h) ?_
    refine RunU.rd 7 (bm 13 255) 47 (.load 73 (.tmp 46)) (.int .u64 ((os.set 0 (IntKind.wrap .u64 ((os.getD 0 0) + (IntKind.wrap .u64 (5 * c))))).getD 0 0)) [0] (Reads.load_blknum hU 0 b (0) 113 0 .u64 (os.set 0 (IntKind.wrap .u64 ((os.getD 0 0) + (IntKind.wrap .u64 (5 * c))))) rfl (by kernel_rfl) (by kernel_rfl) (by omega) (by omega)) ?_
    refine RunU.sil hU true 8 (bm 13 511) 48 (.int .u64 (((os.set 0 (IntKind.wrap .u64 ((os.getD 0 0) + (IntKind.wrap .u64 (5 * c))))).getD 0 0) / 2 ^ 26)) (0 ≤ (26 : Int)) (by kernel_rfl) (by omega) (by kernel_rfl) (by kernel_rfl) (fun _ _ _ h => h) ?_
    refine RunU.sl hU 9 (bm 13 1023) 49 (.int .u64 (IntKind.wrap .u64 (((os.set 0 (IntKind.wrap .u64 ((os.getD 0 0) + (IntKind.wrap .u64 (5 * c))))).getD 1 0) + (((os.set 0 (IntKind.wrap .u64 ((os.getD 0 0) + (IntKind.wrap .u64 (5 * c))))).getD 0 0) / 2 ^ 26)))) ?_
    refine RunU.sl hU 10 (bm 13 2047) 50 (pt b) ?_
    refine RunU.sil hU false 11 (bm 13 4095) 51 (.pointer (some ⟨b, 1, none⟩)) (0 ≤ (1 : Int) ∧ (1 : Int) < ((5 : Nat) : Int)) (by kernel_rfl) (by omega) (by kernel_rfl) (by kernel_rfl) (fun _ _ _ h => h) ?_
    refine RunU.on none (.store 73 (.tmp 51) (.tmp 49)) 12 (bm 13 8191) [] (Step.store_blknum hU 0 b (1) 113 1 .u64 (os.set 0 (IntKind.wrap .u64 ((os.getD 0 0) + (IntKind.wrap .u64 (5 * c))))) (IntKind.wrap .u64 (((os.set 0 (IntKind.wrap .u64 ((os.getD 0 0) + (IntKind.wrap .u64 (5 * c))))).getD 1 0) + (((os.set 0 (IntKind.wrap .u64 ((os.getD 0 0) + (IntKind.wrap .u64 (5 * c))))).getD 0 0) / 2 ^ 26))) (by kernel_rfl) (by kernel_rfl) (by kernel_rfl) rfl (by omega) (by omega) ?_)
    have hl6 : ((os.set 0 (IntKind.wrap .u64 ((os.getD 0 0) + (IntKind.wrap .u64 (5 * c))))).set 1 (IntKind.wrap .u64 (((os.set 0 (IntKind.wrap .u64 ((os.getD 0 0) + (IntKind.wrap .u64 (5 * c))))).getD 1 0) + (((os.set 0 (IntKind.wrap .u64 ((os.getD 0 0) + (IntKind.wrap .u64 (5 * c))))).getD 0 0) / 2 ^ 26)))).length = (os.set 0 (IntKind.wrap .u64 ((os.getD 0 0) + (IntKind.wrap .u64 (5 * c))))).length := List.length_set
    refine orR ?_
    refine RunU.ev [0] [(0, pt b)] ?_
    refine RunU.dn ?_
    refine kseq_n ?_
    refine RunC.regionU hU 8 [blk b 113 (nums .u64 ((os.set 0 (IntKind.wrap .u64 ((os.getD 0 0) + (IntKind.wrap .u64 (5 * c))))).set 1 (IntKind.wrap .u64 (((os.set 0 (IntKind.wrap .u64 ((os.getD 0 0) + (IntKind.wrap .u64 (5 * c))))).getD 1 0) + (((os.set 0 (IntKind.wrap .u64 ((os.getD 0 0) + (IntKind.wrap .u64 (5 * c))))).getD 0 0) / 2 ^ 26)))))] [0] [6, 7] (bm 8 0) (by kernel_rfl) (by kernel_rfl) (by kernel_rfl) ?_
    refine RunU.sl hU 0 (bm 8 1) 52 (pt b) ?_
    refine RunU.sl hU 1 (bm 8 3) 53 (pt b) ?_
    refine RunU.sil hU false 2 (bm 8 7) 54 (pt b) (0 ≤ (0 : Int) ∧ (0 : Int) < ((5 : Nat) : Int)) (by kernel_rfl) (by omega) (by kernel_rfl) (by kernel_rfl) (fun _ _ _ h => h) ?_
    refine RunU.rd 3 (bm 8 15) 55 (.load 73 (.tmp 54)) (.int .u64 (((os.set 0 (IntKind.wrap .u64 ((os.getD 0 0) + (IntKind.wrap .u64 (5 * c))))).set 1 (IntKind.wrap .u64 (((os.set 0 (IntKind.wrap .u64 ((os.getD 0 0) + (IntKind.wrap .u64 (5 * c))))).getD 1 0) + (((os.set 0 (IntKind.wrap .u64 ((os.getD 0 0) + (IntKind.wrap .u64 (5 * c))))).getD 0 0) / 2 ^ 26)))).getD 0 0)) [0] (Reads.load_blknum hU 0 b (0) 113 0 .u64 ((os.set 0 (IntKind.wrap .u64 ((os.getD 0 0) + (IntKind.wrap .u64 (5 * c))))).set 1 (IntKind.wrap .u64 (((os.set 0 (IntKind.wrap .u64 ((os.getD 0 0) + (IntKind.wrap .u64 (5 * c))))).getD 1 0) + (((os.set 0 (IntKind.wrap .u64 ((os.getD 0 0) + (IntKind.wrap .u64 (5 * c))))).getD 0 0) / 2 ^ 26)))) rfl (by kernel_rfl) (by kernel_rfl) (by omega) (by omega)) ?_
    have hm7 := and_le .u64 rfl (((os.set 0 (IntKind.wrap .u64 ((os.getD 0 0) + (IntKind.wrap .u64 (5 * c))))).set 1 (IntKind.wrap .u64 (((os.set 0 (IntKind.wrap .u64 ((os.getD 0 0) + (IntKind.wrap .u64 (5 * c))))).getD 1 0) + (((os.set 0 (IntKind.wrap .u64 ((os.getD 0 0) + (IntKind.wrap .u64 (5 * c))))).getD 0 0) / 2 ^ 26)))).getD 0 0) 67108863 (by decide) (by decide)
    refine RunU.sl hU 4 (bm 8 31) 56 (.int .u64 (bits2 .and .u64 (((os.set 0 (IntKind.wrap .u64 ((os.getD 0 0) + (IntKind.wrap .u64 (5 * c))))).set 1 (IntKind.wrap .u64 (((os.set 0 (IntKind.wrap .u64 ((os.getD 0 0) + (IntKind.wrap .u64 (5 * c))))).getD 1 0) + (((os.set 0 (IntKind.wrap .u64 ((os.getD 0 0) + (IntKind.wrap .u64 (5 * c))))).getD 0 0) / 2 ^ 26)))).getD 0 0) 67108863)) ?_
    refine RunU.sl hU 5 (bm 8 63) 57 (pt b) ?_
    refine RunU.sil hU false 6 (bm 8 127) 58 (pt b) (0 ≤ (0 : Int) ∧ (0 : Int) < ((5 : Nat) : Int)) (by kernel_rfl) (by omega) (by kernel_rfl) (by kernel_rfl) (fun _ _ _ h => h) ?_
    refine RunU.on none (.store 73 (.tmp 58) (.tmp 56)) 7 (bm 8 255) [] (Step.store_blknum hU 0 b (0) 113 0 .u64 ((os.set 0 (IntKind.wrap .u64 ((os.getD 0 0) + (IntKind.wrap .u64 (5 * c))))).set 1 (IntKind.wrap .u64 (((os.set 0 (IntKind.wrap .u64 ((os.getD 0 0) + (IntKind.wrap .u64 (5 * c))))).getD 1 0) + (((os.set 0 (IntKind.wrap .u64 ((os.getD 0 0) + (IntKind.wrap .u64 (5 * c))))).getD 0 0) / 2 ^ 26)))) (bits2 .and .u64 (((os.set 0 (IntKind.wrap .u64 ((os.getD 0 0) + (IntKind.wrap .u64 (5 * c))))).set 1 (IntKind.wrap .u64 (((os.set 0 (IntKind.wrap .u64 ((os.getD 0 0) + (IntKind.wrap .u64 (5 * c))))).getD 1 0) + (((os.set 0 (IntKind.wrap .u64 ((os.getD 0 0) + (IntKind.wrap .u64 (5 * c))))).getD 0 0) / 2 ^ 26)))).getD 0 0) 67108863) (by kernel_rfl) (by kernel_rfl) (by kernel_rfl) rfl (by omega) (by omega) ?_)
    have hl8 : (((os.set 0 (IntKind.wrap .u64 ((os.getD 0 0) + (IntKind.wrap .u64 (5 * c))))).set 1 (IntKind.wrap .u64 (((os.set 0 (IntKind.wrap .u64 ((os.getD 0 0) + (IntKind.wrap .u64 (5 * c))))).getD 1 0) + (((os.set 0 (IntKind.wrap .u64 ((os.getD 0 0) + (IntKind.wrap .u64 (5 * c))))).getD 0 0) / 2 ^ 26)))).set 0 (bits2 .and .u64 (((os.set 0 (IntKind.wrap .u64 ((os.getD 0 0) + (IntKind.wrap .u64 (5 * c))))).set 1 (IntKind.wrap .u64 (((os.set 0 (IntKind.wrap .u64 ((os.getD 0 0) + (IntKind.wrap .u64 (5 * c))))).getD 1 0) + (((os.set 0 (IntKind.wrap .u64 ((os.getD 0 0) + (IntKind.wrap .u64 (5 * c))))).getD 0 0) / 2 ^ 26)))).getD 0 0) 67108863)).length = ((os.set 0 (IntKind.wrap .u64 ((os.getD 0 0) + (IntKind.wrap .u64 (5 * c))))).set 1 (IntKind.wrap .u64 (((os.set 0 (IntKind.wrap .u64 ((os.getD 0 0) + (IntKind.wrap .u64 (5 * c))))).getD 1 0) + (((os.set 0 (IntKind.wrap .u64 ((os.getD 0 0) + (IntKind.wrap .u64 (5 * c))))).getD 0 0) / 2 ^ 26)))).length := List.length_set
    refine orR ?_
    refine RunU.ev [] [] ?_
    refine RunU.dn ?_
    refine kret_n [] [0] [blk b 113 (nums .u64 (((os.set 0 (IntKind.wrap .u64 ((os.getD 0 0) + (IntKind.wrap .u64 (5 * c))))).set 1 (IntKind.wrap .u64 (((os.set 0 (IntKind.wrap .u64 ((os.getD 0 0) + (IntKind.wrap .u64 (5 * c))))).getD 1 0) + (((os.set 0 (IntKind.wrap .u64 ((os.getD 0 0) + (IntKind.wrap .u64 (5 * c))))).getD 0 0) / 2 ^ 26)))).set 0 (bits2 .and .u64 (((os.set 0 (IntKind.wrap .u64 ((os.getD 0 0) + (IntKind.wrap .u64 (5 * c))))).set 1 (IntKind.wrap .u64 (((os.set 0 (IntKind.wrap .u64 ((os.getD 0 0) + (IntKind.wrap .u64 (5 * c))))).getD 1 0) + (((os.set 0 (IntKind.wrap .u64 ((os.getD 0 0) + (IntKind.wrap .u64 (5 * c))))).getD 0 0) / 2 ^ 26)))).getD 0 0) 67108863)))] trivial (by kernel_rfl) rfl ⟨(((os.set 0 (IntKind.wrap .u64 ((os.getD 0 0) + (IntKind.wrap .u64 (5 * c))))).set 1 (IntKind.wrap .u64 (((os.set 0 (IntKind.wrap .u64 ((os.getD 0 0) + (IntKind.wrap .u64 (5 * c))))).getD 1 0) + (((os.set 0 (IntKind.wrap .u64 ((os.getD 0 0) + (IntKind.wrap .u64 (5 * c))))).getD 0 0) / 2 ^ 26)))).set 0 (bits2 .and .u64 (((os.set 0 (IntKind.wrap .u64 ((os.getD 0 0) + (IntKind.wrap .u64 (5 * c))))).set 1 (IntKind.wrap .u64 (((os.set 0 (IntKind.wrap .u64 ((os.getD 0 0) + (IntKind.wrap .u64 (5 * c))))).getD 1 0) + (((os.set 0 (IntKind.wrap .u64 ((os.getD 0 0) + (IntKind.wrap .u64 (5 * c))))).getD 0 0) / 2 ^ 26)))).getD 0 0) 67108863)), rfl, rfl, (by exact k_end hX (by rw [ho, show i = 5 by omega] <;> rfl) (by rw [hc, show i = 5 by omega] <;> rfl)), (by rw [List.length_set, List.length_set, List.length_set]; exact hol)⟩
end Go.Proofs.Ytkehpipialmneaa.X7
