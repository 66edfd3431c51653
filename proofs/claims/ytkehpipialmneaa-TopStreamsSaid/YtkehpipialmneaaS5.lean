/- What these functions compute: a contract for each, walked through its code. -/
import Derived.Test.YtkehpipialmneaaSLzn
import Derived.Test.YtkehpipialmneaaBPure
import Derived.Test.YtkehpipialmneaaProg
import Derived.Test.YtkehpipialmneaaX1
import Derived.Test.YtkehpipialmneaaX2
import Derived.Test.YtkehpipialmneaaX3
import Derived.Test.YtkehpipialmneaaX4
import Derived.Test.YtkehpipialmneaaX5
import Derived.Test.YtkehpipialmneaaX6
import Derived.Test.YtkehpipialmneaaX7
import Derived.Test.YtkehpipialmneaaX8
import Derived.Test.YtkehpipialmneaaX9
import Derived.Test.YtkehpipialmneaaZ1
import Derived.Test.YtkehpipialmneaaZ2
import Derived.Test.YtkehpipialmneaaS1
import Derived.Test.YtkehpipialmneaaS2
import Derived.Test.YtkehpipialmneaaS3
import Derived.Test.YtkehpipialmneaaS4
namespace Go.Proofs.Ytkehpipialmneaa.S5
open Go Go.Proofs.Ytkehpipialmneaa.SL Go.Proofs.Ytkehpipialmneaa.SL.W Go.Proofs.Ytkehpipialmneaa.SL.C Go.Proofs.Ytkehpipialmneaa.SL.H Go.Proofs.Ytkehpipialmneaa.SL.M Go.Proofs.Ytkehpipialmneaa.SL.Y Go.Proofs.Ytkehpipialmneaa.SL.A Go.Proofs.Ytkehpipialmneaa.SL.B Go.Proofs.Ytkehpipialmneaa.X1 Go.Proofs.Ytkehpipialmneaa.X2 Go.Proofs.Ytkehpipialmneaa.X3 Go.Proofs.Ytkehpipialmneaa.X4 Go.Proofs.Ytkehpipialmneaa.X5 Go.Proofs.Ytkehpipialmneaa.X6 Go.Proofs.Ytkehpipialmneaa.X7 Go.Proofs.Ytkehpipialmneaa.X8 Go.Proofs.Ytkehpipialmneaa.X9 Go.Proofs.Ytkehpipialmneaa.Z1 Go.Proofs.Ytkehpipialmneaa.Z2 Go.Proofs.Ytkehpipialmneaa.S1 Go.Proofs.Ytkehpipialmneaa.S2 Go.Proofs.Ytkehpipialmneaa.S3 Go.Proofs.Ytkehpipialmneaa.S4
set_option linter.unusedVariables false
set_option linter.unusedSimpArgs false
set_option maxRecDepth 100000
set_option maxHeartbeats 40000000
def U : Tab where
  und := [(3, .int .i64), (5, .int .u8), (24, .slice 5), (53, .int .u32), (63, .struct #[{ name := "bytes", type := 24, offset := 0, embedded := false, tag := "", pkgPath := "orlop/seal", byteOffset := 0 }, { name := "context", type := 24, offset := 1, embedded := false, tag := "", pkgPath := "orlop/seal", byteOffset := 24 }]), (64, .struct #[{ name := "bytes", type := 24, offset := 0, embedded := false, tag := "", pkgPath := "orlop/seal", byteOffset := 0 }, { name := "context", type := 24, offset := 1, embedded := false, tag := "", pkgPath := "orlop/seal", byteOffset := 24 }]), (67, .slice 24)]
  fld := [((63, 0), (0, 24)), ((63, 1), (1, 24)), ((64, 0), (0, 24)), ((64, 1), (1, 24))]
  sz := [(3, 1), (5, 1), (24, 1), (53, 1), (63, 2), (64, 2), (67, 1)]
  ti := [(3, (1, 8, .int .i64 0)), (5, (1, 1, .int .u8 0)), (24, (1, 24, .slice none 0 0)), (53, (1, 4, .int .u32 0)), (63, (2, 48, .agg #[.slice none 0 0, .slice none 0 0])), (64, (2, 48, .agg #[.slice none 0 0, .slice none 0 0])), (67, (1, 24, .slice none 0 0))]
  bld := [(63, [(0, 1), (1, 1)]), (64, [(0, 1), (1, 1)])]

theorem hU : U.OK Try.prog where
  und := by
    intro p hp
    simp only [U, List.mem_cons, List.not_mem_nil, or_false] at hp
    rcases hp with rfl | rfl | rfl | rfl | rfl | rfl | rfl
    · exact Try.underlying3
    · exact Try.underlying5
    · exact Try.underlying24
    · exact Try.underlying53
    · exact Try.underlying63
    · exact Try.underlying64
    · exact Try.underlying67
  fld := by
    intro p hp
    simp only [U, List.mem_cons, List.not_mem_nil, or_false] at hp
    rcases hp with rfl | rfl | rfl | rfl
    · exact ⟨_, _, Try.underlying63, rfl, rfl, rfl, Try.prog.types[24]!, by kernel_rfl, by decide +kernel⟩
    · exact ⟨_, _, Try.underlying63, rfl, rfl, rfl, Try.prog.types[24]!, by kernel_rfl, by decide +kernel⟩
    · exact ⟨_, _, Try.underlying64, rfl, rfl, rfl, Try.prog.types[24]!, by kernel_rfl, by decide +kernel⟩
    · exact ⟨_, _, Try.underlying64, rfl, rfl, rfl, Try.prog.types[24]!, by kernel_rfl, by decide +kernel⟩
  sz := by
    intro p hp
    simp only [U, List.mem_cons, List.not_mem_nil, or_false] at hp
    rcases hp with rfl | rfl | rfl | rfl | rfl | rfl | rfl
    · exact ⟨Try.prog.types[3]!, by kernel_rfl, by kernel_rfl⟩
    · exact ⟨Try.prog.types[5]!, by kernel_rfl, by kernel_rfl⟩
    · exact ⟨Try.prog.types[24]!, by kernel_rfl, by kernel_rfl⟩
    · exact ⟨Try.prog.types[53]!, by kernel_rfl, by kernel_rfl⟩
    · exact ⟨Try.prog.types[63]!, by kernel_rfl, by kernel_rfl⟩
    · exact ⟨Try.prog.types[64]!, by kernel_rfl, by kernel_rfl⟩
    · exact ⟨Try.prog.types[67]!, by kernel_rfl, by kernel_rfl⟩
  ti := by
    intro p hp
    simp only [U, List.mem_cons, List.not_mem_nil, or_false] at hp
    rcases hp with rfl | rfl | rfl | rfl | rfl | rfl | rfl
    · exact ⟨Try.prog.types[3]!, by kernel_rfl, by kernel_rfl, by kernel_rfl, by kernel_rfl⟩
    · exact ⟨Try.prog.types[5]!, by kernel_rfl, by kernel_rfl, by kernel_rfl, by kernel_rfl⟩
    · exact ⟨Try.prog.types[24]!, by kernel_rfl, by kernel_rfl, by kernel_rfl, by kernel_rfl⟩
    · exact ⟨Try.prog.types[53]!, by kernel_rfl, by kernel_rfl, by kernel_rfl, by kernel_rfl⟩
    · exact ⟨Try.prog.types[63]!, by kernel_rfl, by kernel_rfl, by kernel_rfl, by kernel_rfl⟩
    · exact ⟨Try.prog.types[64]!, by kernel_rfl, by kernel_rfl, by kernel_rfl, by kernel_rfl⟩
    · exact ⟨Try.prog.types[67]!, by kernel_rfl, by kernel_rfl, by kernel_rfl, by kernel_rfl⟩
  bld := by
    intro p hp
    simp only [U, List.mem_cons, List.not_mem_nil, or_false] at hp
    rcases hp with rfl | rfl
    · exact ⟨_, Try.underlying63, by kernel_rfl⟩
    · exact ⟨_, Try.underlying64, by kernel_rfl⟩
  mixed := by kernel_rfl

theorem s_maySize_spec (n : Int) (hn : fits .i64 n) :
    CallsS Try.prog 26 [.int .i64 n] [] (fun r D => r = .bool (decide (1 ≤ n ∧ n ≤ 65536)) ∧ D = []) := by
  refine CallsS.enter hU Try.f26 _ [.tmp 2] 9 Try.func26 rfl (by decide) rfl rfl (by kernel_rfl) fun w0 W => ?_
  refine RunC.sr ?_
  refine RunR.sl hU [] 1 1 [0, 2] [(0, .int .i64 n), (2, .bool false)] 1 ?_
  refine RunR.nx ?_
  refine RunR.sl hU [] 3 3 [0, 2, 5] [(0, .int .i64 n), (2, .bool false), (5, .bool (decide (n ≥ 1)))] 3 ?_
  refine RunR.ev [0, 2, 5] [(0, .int .i64 n), (2, .bool false), (5, .bool (decide (n ≥ 1)))] ?_
  by_cases h1 : n ≥ 1
  · skip
    refine RunR.enveq [(0, .int .i64 n), (2, .bool false), (5, .bool true)] (by rw [decide_eq_true h1]; try rfl) ?_
    refine RunR.sl hU [] 4 7 [2] [(2, .bool (decide (n ≤ 65536)))] 4 ?_
    refine RunR.nn ?_
    refine RunC.ret ?_
    refine kret_r [.bool (decide (n ≤ 65536))] [] [] ⟨rfl, trivial⟩ (by kernel_rfl) rfl ⟨(by first | rfl | (exact congrArg Value.bool (decide_eq_decide.2 (by omega)))), (by first | rfl | (exact congrArg Value.bool (decide_eq_decide.2 (by omega))))⟩
  · skip
    refine RunR.enveq [(0, .int .i64 n), (2, .bool false), (5, .bool false)] (by rw [decide_eq_false h1]; try rfl) ?_
    refine RunR.sl hU [] 4 7 [2] [(2, .bool false)] 2 ?_
    refine RunR.nn ?_
    refine RunC.ret ?_
    refine kret_r [.bool false] [] [] ⟨rfl, trivial⟩ (by kernel_rfl) rfl ⟨(by first | rfl | (exact congrArg Value.bool (decide_eq_false (by omega)).symm)), (by first | rfl | (exact congrArg Value.bool (decide_eq_false (by omega)).symm))⟩

theorem s_newHead_spec (A : Option Addr) (c : Nat) (ps : List Int) (A2 : Option Addr) (c2 : Nat) (u : Nat) (n : Int) (l_ps : Nat) (hIps : In .u8 ps) (hCps : ps.length ≤ c) (hBps : ps.length ≤ 1000000) (hn : 0 ≤ n ∧ n ≤ 65536) (hp7 : ps.length = 7) (hl_ps : ps.length = l_ps) :
    CallsS Try.prog 27 [.slice A l_ps c, .slice A2 u c2, .int .i64 n] [vw A (nums .u8 ps)] (fun r D => ∃ (A9 : Option Addr) (c9 : Nat) (zs : List Int), r = .agg #[.slice A9 zs.length c9, .slice A2 u c2] ∧ D = [row 5 1 (.slice A9 zs.length c9) zs.length (nums .u8 zs)] ∧ (zs = headL ps n) ∧ (In .u8 zs) ∧ (zs.length ≤ c9) ∧ (0 < zs.length → Option.isSome A9 = true) ∧ (zs.length = 12)) := by
  subst hl_ps
  refine CallsS.enter hU Try.f27 _ [.cell 6 64] 16 Try.func27 rfl (by decide) rfl rfl (by kernel_rfl) fun w0 W => ?_
  refine RunC.know (p := 0 < ps.length → Option.isSome A = true) (fun _ _ w hs => vw_some hs 0 rfl (by (simp [nums_length]; done))) (fun hA1 => ?_)
  refine RunC.sr ?_
  refine RunR.st (some 6) (.alloc 64) (Step.al hU 2 48 (.agg #[.slice none 0 0, .slice none 0 0]) (fun b2 => ?_))
  refine RunR.nx ?_
  refine RunR.st (some 7) (.buildSlice 24 1 #[(0, .const (.int .u8 1))]) (Step.lit_nums hU 5 1 .u8 (.int .u8 0) ([1] : List Int) rfl rfl (by kernel_rfl) rfl rfl (by kernel_rfl) (fun b3 => ?_))
  have hl4 : (([1] : List Int)).length = 1 := rfl
  refine RunR.sil hU [3] 3 4 [1, 6, 7, 8, 10] [(1, .slice A2 u c2), (6, pt b2), (7, .slice (some ⟨b3, 0, none⟩) 1 1), (8, .slice A ps.length c), (10, .int .u32 n)] ((True) ∧ (True) ∧ (0 ≤ n ∧ n < 4294967296) ∧ True) rfl (by kernel_rfl) ⟨trivial, trivial, (by omega), trivial⟩ ?_
  refine RunR.st (some 11) (.call { callee := .value (.func 49), args := #[.tmp 10], argTypes := #[53] }) (Step.cn 49 [.int .u32 n] [] [row 5 1 (.slice (some ⟨b3, 0, none⟩) 1 1) 1 (nums .u8 ([1] : List Int)), blk b2 64 [.slice none 0 0, .slice none 0 0], vw A (nums .u8 ps)] (w_Big32_spec n (by (refine ⟨?_, ?_⟩ <;> omega))) [] ?_)
  rintro _ _ ⟨Aq5, cq6, zs7, rfl, rfl, hp8, hp9, hp10, hp11, hp12⟩
  have hq13 := congrArg List.length hp8
  refine RunR.st (some 12) (.buildSlice 67 3 #[(0, .tmp 7), (1, .tmp 8), (2, .tmp 11)]) (Step.lit_rows hU 24 24 (.slice none 0 0) [.slice (some ⟨b3, 0, none⟩) 1 1, .slice A ps.length c, .slice Aq5 zs7.length cq6] rfl rfl (by kernel_rfl) rfl rfl (by kernel_rfl) (fun b14 => ?_))
  refine RunR.st (some 13) (.call { callee := .value (.func 22), args := #[.tmp 12], argTypes := #[67] }) (Step.cl 22 [.slice (some ⟨b14, 0, none⟩) 3 3] [] [vw (some ⟨b14, 0, none⟩) (rowsV ((some ⟨b3, 0, none⟩, 1, ([1] : List Int)) :: (A, c, ps) :: (Aq5, cq6, zs7) :: [])), vws (rowsL .u8 ((some ⟨b3, 0, none⟩, 1, ([1] : List Int)) :: (A, c, ps) :: (Aq5, cq6, zs7) :: []))] [row 24 1 (.slice (some ⟨b14, 0, none⟩) 3 3) 3 (rowsV ((some ⟨b3, 0, none⟩, 1, ([1] : List Int)) :: (A, c, ps) :: (Aq5, cq6, zs7) :: [])), row 5 1 (.slice Aq5 zs7.length cq6) zs7.length (nums .u8 zs7), row 5 1 (.slice (some ⟨b3, 0, none⟩) 1 1) 1 (nums .u8 ([1] : List Int)), blk b2 64 [.slice none 0 0, .slice none 0 0], vw A (nums .u8 ps)] (sl_Concat_spec (some ⟨b14, 0, none⟩) 3 ((some ⟨b3, 0, none⟩, 1, ([1] : List Int)) :: (A, c, ps) :: (Aq5, cq6, zs7) :: []) 3 (RowsOK.cons (by (repeat first | (simp only [fits]; omega) | with_reducible first | exact In.nil _ | apply In.cons)) (by omega) (by omega) (RowsOK.cons hIps (by assumption) (by omega) (RowsOK.cons hp10 (by assumption) (by omega) (RowsOK.nil _)))) (by (simp only [List.length_append, List.length_cons, List.length_nil, List.length_set, List.length_replicate, List.length_take, List.length_drop]; omega)) (by simp only [cat_cons, cat_nil, List.length_append, List.length_cons, List.length_nil]; omega) (by rfl)) [] ((((((Lend.nil _).rows0 .u8).rows1 1 (row 5 1 (.slice Aq5 zs7.length cq6) zs7.length (nums .u8 zs7)) Aq5 cq6 zs7 (by kernel_rfl) (tells_row _ _ _ _ _ _)).rows1 4 (vw A (nums .u8 ps)) A c ps (by kernel_rfl) (tells_vw _ _)).rows1 2 (row 5 1 (.slice (some ⟨b3, 0, none⟩) 1 1) 1 (nums .u8 ([1] : List Int))) (some ⟨b3, 0, none⟩) 1 ([1] : List Int) (by kernel_rfl) (tells_row _ _ _ _ _ _)).tells 0 (row 24 1 (.slice (some ⟨b14, 0, none⟩) 3 3) 3 (rowsV ((some ⟨b3, 0, none⟩, 1, ([1] : List Int)) :: (A, c, ps) :: (Aq5, cq6, zs7) :: []))) (some ⟨b14, 0, none⟩) (rowsV ((some ⟨b3, 0, none⟩, 1, ([1] : List Int)) :: (A, c, ps) :: (Aq5, cq6, zs7) :: [])) (by kernel_rfl) (tells_row _ _ _ _ _ _)) ?_)
  rintro _ _ ⟨A915, c916, zs17, rfl, rfl, hp18, hp19, hp20, hp21⟩
  refine RunR.sl hU [] 2 9 [6, 15] [(6, pt b2), (15, .agg #[.slice A915 zs17.length c916, .slice A2 u c2])] 2 ?_
  refine RunR.st none (.store 64 (.tmp 6) (.tmp 15)) (Step.store_blk hU 4 b2 0 64 [.slice none 0 0, .slice none 0 0] (.agg #[.slice A915 zs17.length c916, .slice A2 u c2]) (by kernel_rfl) (by kernel_rfl) (by kernel_rfl) 2 rfl [.slice A915 zs17.length c916, .slice A2 u c2] (by kernel_rfl) rfl (by kernel_rfl) (by decide) ?_)
  refine RunR.nn ?_
  refine RunC.ret ?_
  refine kret_r [.agg #[.slice A915 zs17.length c916, .slice A2 u c2]] [1] [row 5 1 (.slice A915 zs17.length c916) zs17.length (nums .u8 zs17)] ⟨⟨0, b2, 0, 64, [.slice A915 zs17.length c916, .slice A2 u c2], rfl, rfl, by kernel_rfl⟩, trivial⟩ (by kernel_rfl) rfl ⟨A915, c916, zs17, rfl, rfl, (by (simp only [hp8, hp18, cat_cons, cat_nil, List.append_nil]; rfl)), hp19, (by assumption), (fun h => hp21 (by exact h)), (by (have h_ := headL_len (n := n) hp7); rw [← h_]; refine congrArg List.length ?_; (simp only [hp8, hp18, cat_cons, cat_nil, List.append_nil]; rfl))⟩

theorem s_nonce_spec (A : Option Addr) (c : Nat) (hb : List Int) (A2 : Option Addr) (c2 : Nat) (u : Nat) (i : Int) (la : Bool) (l_hb : Nat) (hIhb : In .u8 hb) (hChb : hb.length ≤ c) (hBhb : hb.length ≤ 1000000) (hb12 : hb.length = 12) (hi : 0 ≤ i ∧ i < 4294967296) (hl_hb : hb.length = l_hb) :
    CallsS Try.prog 30 [.agg #[.slice A l_hb c, .slice A2 u c2], .int .i64 i, .bool la] [vw A (nums .u8 hb)] (fun r D => ∃ (A9 : Option Addr) (c9 : Nat) (zs : List Int), r = .slice A9 zs.length c9 ∧ D = [row 5 1 (.slice A9 zs.length c9) zs.length (nums .u8 zs)] ∧ (zs = nonceL hb i la) ∧ (In .u8 zs) ∧ (zs.length ≤ c9) ∧ (0 < zs.length → Option.isSome A9 = true)) := by
  subst hl_hb
  refine CallsS.enter hU Try.f30 _ [.tmp 6] 19 Try.func30 rfl (by decide) rfl rfl (by kernel_rfl) fun w0 W => ?_
  refine RunC.know (p := 0 < hb.length → Option.isSome A = true) (fun _ _ w hs => vw_some hs 0 rfl (by (simp [nums_length]; done))) (fun hA1 => ?_)
  refine RunC.sr ?_
  refine RunR.st (some 3) (.box 64 (.tmp 0)) (Step.box (.agg #[.slice A hb.length c, .slice A2 u c2]) (by kernel_rfl) (by kernel_rfl) (fun b2 => ?_))
  refine RunR.sl hU [] 1 2 [1, 2, 3, 6] [(1, .int .i64 i), (2, .bool la), (3, pt b2), (6, .slice none 0 0)] 1 ?_
  refine RunR.nx ?_
  refine RunR.sl hU [] 1 1 [1, 2, 3, 6, 7] [(1, .int .i64 i), (2, .bool la), (3, pt b2), (6, .slice none 0 0), (7, .int .u8 0)] 1 ?_
  refine RunR.nn ?_
  refine RunC.seq ?_
  refine RunC.sr ?_
  refine RunR.sl hU [] 1 1 [1, 3, 6, 7, 8] [(1, .int .i64 i), (3, pt b2), (6, .slice none 0 0), (7, .int .u8 0), (8, .bool la)] 1 ?_
  refine RunR.nn ?_
  refine RunC.cond (b := la) (by kernel_rfl) (fun h3 => ?_) (fun h3 => ?_)
  · skip
    refine RunC.region ?_
    refine RunR.sl hU [] 1 1 [1, 3, 6, 7] [(1, .int .i64 i), (3, pt b2), (6, .slice none 0 0), (7, .int .u8 1)] 1 ?_
    refine RunR.nn ?_
    refine RunC.seq ?_
    refine RunC.regionU hU 11 [blk b2 64 [.slice A hb.length c, .slice A2 u c2]] [0] [9, 10] (bm 11 0) (by kernel_rfl) (by kernel_rfl) (by kernel_rfl) ?_
    refine RunU.sl hU 0 (bm 11 1) 9 (pt b2) ?_
    refine RunU.rd 1 (bm 11 3) 10 (.load 24 (.tmp 9)) (.slice A hb.length c) [0] (Reads.load_blk hU 0 b2 (0) 64 [.slice A hb.length c, .slice A2 u c2] (.slice A hb.length c) (by kernel_rfl) (by kernel_rfl) (by kernel_rfl)) ?_
    refine RunU.sil hU false 2 (bm 11 7) 11 (.slice (subBase A 1 c 1) (8 - 1) (c - 1)) (0 ≤ (1 : Int) ∧ (1 : Int) ≤ (8 : Int) ∧ (8 : Int) ≤ ((c : Nat) : Int)) (by kernel_rfl) (by omega) (by kernel_rfl) (by kernel_rfl) (fun _ _ _ h => h) ?_
    obtain ⟨zs4, hz5⟩ : ∃ z : List Int, z = (hb.drop 1).take (8 - 1) := ⟨_, rfl⟩
    have hl6 : zs4.length = 8 - 1 := by rw [hz5, List.length_take, List.length_drop]; omega
    have hB8_t : Tells (vw A (nums .u8 hb)) (subBase A 1 c 1) (nums .u8 zs4) := by rw [hz5]; exact tells_sub_nums (tells_vw _ _) _ _ _ (by omega) (by omega)
    have hA9 : 0 < zs4.length → Option.isSome (subBase A 1 c 1) = true := fun h => part_some (hA1 (by omega)) _ _ _
    refine RunU.ev [1, 3, 6, 7, 9, 10, 11] [(1, .int .i64 i), (3, pt b2), (6, .slice none 0 0), (7, .int .u8 1), (9, pt b2), (10, .slice A hb.length c), (11, .slice (subBase A 1 c 1) (8 - 1) (c - 1))] ?_
    refine RunU.enveq [(1, .int .i64 i), (3, pt b2), (6, .slice none 0 0), (7, .int .u8 1), (9, pt b2), (10, .slice A hb.length c), (11, .slice (subBase A 1 c 1) zs4.length (c - 1))] (by rw [hl6]) ?_
    have hr10 : In .u8 zs4 := by rw [hz5]; exact (hIhb.drop _).take _
    refine RunU.sl hU 3 (bm 11 15) 12 (.int .i64 i) ?_
    refine RunU.sil hU true 4 (bm 11 31) 13 (.int .u32 i) (0 ≤ i ∧ i < 4294967296) (by kernel_rfl) (by omega) (by kernel_rfl) (by kernel_rfl) (fun _ _ _ h => h) ?_
    refine RunU.sl hU 6 (bm 11 95) 15 (.int .u8 1) ?_
    refine RunU.two (d1 := some 14) (o1 := .call { callee := .value (.func 49), args := #[.tmp 13], argTypes := #[53] }) (d2 := some 16) (o2 := .buildSlice 24 1 #[(0, .tmp 15)]) 5 7 (bm 11 127) (bm 11 223) [1] [1] (by kernel_rfl) (by kernel_rfl) (by kernel_rfl) (by kernel_rfl) (by kernel_rfl) ?_ ?_
    · skip
      refine (Step.cn 49 [.int .u32 i] [] [blk b2 64 [.slice A hb.length c, .slice A2 u c2], vw A (nums .u8 hb)] (w_Big32_spec i (by assumption)) [] ?_)
      rintro _ _ ⟨Aq11, cq12, zs13, rfl, rfl, hp14, hp15, hp16, hp17, hp18⟩
      refine orL ?_
      refine RunU.on (some 16) (.buildSlice 24 1 #[(0, .tmp 15)]) 7 (bm 11 255) [2] (Step.lit_nums hU 5 1 .u8 (.int .u8 0) ([1] : List Int) rfl rfl (by kernel_rfl) rfl rfl (by kernel_rfl) (fun b19 => ?_))
      have hl20 : (([1] : List Int)).length = 1 := rfl
      refine orL ?_
      refine RunU.on (some 17) (.buildSlice 67 3 #[(0, .tmp 11), (1, .tmp 14), (2, .tmp 16)]) 8 (bm 11 511) [3] (Step.lit_rows hU 24 24 (.slice none 0 0) [.slice (subBase A 1 c 1) zs4.length (c - 1), .slice Aq11 zs13.length cq12, .slice (some ⟨b19, 0, none⟩) 1 1] rfl rfl (by kernel_rfl) rfl rfl (by kernel_rfl) (fun b21 => ?_))
      refine orL ?_
      refine RunU.on (some 18) (.call { callee := .value (.func 22), args := #[.tmp 17], argTypes := #[67] }) 9 (bm 11 1023) [] (Step.cl 22 [.slice (some ⟨b21, 0, none⟩) 3 3] [] [vw (some ⟨b21, 0, none⟩) (rowsV ((subBase A 1 c 1, c - 1, zs4) :: (Aq11, cq12, zs13) :: (some ⟨b19, 0, none⟩, 1, ([1] : List Int)) :: [])), vws (rowsL .u8 ((subBase A 1 c 1, c - 1, zs4) :: (Aq11, cq12, zs13) :: (some ⟨b19, 0, none⟩, 1, ([1] : List Int)) :: []))] [row 24 1 (.slice (some ⟨b21, 0, none⟩) 3 3) 3 (rowsV ((subBase A 1 c 1, c - 1, zs4) :: (Aq11, cq12, zs13) :: (some ⟨b19, 0, none⟩, 1, ([1] : List Int)) :: [])), row 5 1 (.slice (some ⟨b19, 0, none⟩) 1 1) 1 (nums .u8 ([1] : List Int)), row 5 1 (.slice Aq11 zs13.length cq12) zs13.length (nums .u8 zs13), blk b2 64 [.slice A hb.length c, .slice A2 u c2], vw A (nums .u8 hb)] (sl_Concat_spec (some ⟨b21, 0, none⟩) 3 ((subBase A 1 c 1, c - 1, zs4) :: (Aq11, cq12, zs13) :: (some ⟨b19, 0, none⟩, 1, ([1] : List Int)) :: []) 3 (RowsOK.cons hr10 (by omega) (by omega) (RowsOK.cons hp16 (by assumption) (by omega) (RowsOK.cons (by (repeat first | (simp only [fits]; omega) | with_reducible first | exact In.nil _ | apply In.cons)) (by omega) (by omega) (RowsOK.nil _)))) (by (simp only [List.length_append, List.length_cons, List.length_nil, List.length_set, List.length_replicate, List.length_take, List.length_drop]; omega)) (by simp only [cat_cons, cat_nil, List.length_append, List.length_cons, List.length_nil]; omega) (by rfl)) [] ((((((Lend.nil _).rows0 .u8).rows1 1 (row 5 1 (.slice (some ⟨b19, 0, none⟩) 1 1) 1 (nums .u8 ([1] : List Int))) (some ⟨b19, 0, none⟩) 1 ([1] : List Int) (by kernel_rfl) (tells_row _ _ _ _ _ _)).rows1 2 (row 5 1 (.slice Aq11 zs13.length cq12) zs13.length (nums .u8 zs13)) Aq11 cq12 zs13 (by kernel_rfl) (tells_row _ _ _ _ _ _)).rows1 4 (vw A (nums .u8 hb)) (subBase A 1 c 1) (c - 1) zs4 (by kernel_rfl) (hB8_t)).tells 0 (row 24 1 (.slice (some ⟨b21, 0, none⟩) 3 3) 3 (rowsV ((subBase A 1 c 1, c - 1, zs4) :: (Aq11, cq12, zs13) :: (some ⟨b19, 0, none⟩, 1, ([1] : List Int)) :: []))) (some ⟨b21, 0, none⟩) (rowsV ((subBase A 1 c 1, c - 1, zs4) :: (Aq11, cq12, zs13) :: (some ⟨b19, 0, none⟩, 1, ([1] : List Int)) :: [])) (by kernel_rfl) (tells_row _ _ _ _ _ _)) ?_)
      rintro _ _ ⟨A922, c923, zs24, rfl, rfl, hp25, hp26, hp27, hp28⟩
      refine orR ?_
      refine RunU.sl hU 10 (bm 11 2047) 6 (.slice A922 zs24.length c923) ?_
      refine RunU.ev [6] [(6, .slice A922 zs24.length c923)] ?_
      refine RunU.dn ?_
      refine kseq_n ?_
      refine RunC.ret ?_
      refine kret_r [.slice A922 zs24.length c923] [0] [row 5 1 (.slice A922 zs24.length c923) zs24.length (nums .u8 zs24)] ⟨rfl, trivial⟩ (by kernel_rfl) rfl ⟨A922, c923, zs24, rfl, rfl, (by simp only [hz5, hp14, hp25, cat_cons, cat_nil, List.append_nil]; simp [nonceL, *]), hp26, (by assumption), (fun h => hp28 (by exact h))⟩
    · skip
      refine (Step.lit_nums hU 5 1 .u8 (.int .u8 0) ([1] : List Int) rfl rfl (by kernel_rfl) rfl rfl (by kernel_rfl) (fun b29 => ?_))
      have hl30 : (([1] : List Int)).length = 1 := rfl
      refine orL ?_
      refine RunU.on (some 14) (.call { callee := .value (.func 49), args := #[.tmp 13], argTypes := #[53] }) 5 (bm 11 255) [2] (Step.cn 49 [.int .u32 i] [] [row 5 1 (.slice (some ⟨b29, 0, none⟩) 1 1) 1 (nums .u8 ([1] : List Int)), blk b2 64 [.slice A hb.length c, .slice A2 u c2], vw A (nums .u8 hb)] (w_Big32_spec i (by assumption)) [] ?_)
      rintro _ _ ⟨Aq31, cq32, zs33, rfl, rfl, hp34, hp35, hp36, hp37, hp38⟩
      refine orL ?_
      refine RunU.on (some 17) (.buildSlice 67 3 #[(0, .tmp 11), (1, .tmp 14), (2, .tmp 16)]) 8 (bm 11 511) [3] (Step.lit_rows hU 24 24 (.slice none 0 0) [.slice (subBase A 1 c 1) zs4.length (c - 1), .slice Aq31 zs33.length cq32, .slice (some ⟨b29, 0, none⟩) 1 1] rfl rfl (by kernel_rfl) rfl rfl (by kernel_rfl) (fun b39 => ?_))
      refine orL ?_
      refine RunU.on (some 18) (.call { callee := .value (.func 22), args := #[.tmp 17], argTypes := #[67] }) 9 (bm 11 1023) [] (Step.cl 22 [.slice (some ⟨b39, 0, none⟩) 3 3] [] [vw (some ⟨b39, 0, none⟩) (rowsV ((subBase A 1 c 1, c - 1, zs4) :: (Aq31, cq32, zs33) :: (some ⟨b29, 0, none⟩, 1, ([1] : List Int)) :: [])), vws (rowsL .u8 ((subBase A 1 c 1, c - 1, zs4) :: (Aq31, cq32, zs33) :: (some ⟨b29, 0, none⟩, 1, ([1] : List Int)) :: []))] [row 24 1 (.slice (some ⟨b39, 0, none⟩) 3 3) 3 (rowsV ((subBase A 1 c 1, c - 1, zs4) :: (Aq31, cq32, zs33) :: (some ⟨b29, 0, none⟩, 1, ([1] : List Int)) :: [])), row 5 1 (.slice Aq31 zs33.length cq32) zs33.length (nums .u8 zs33), row 5 1 (.slice (some ⟨b29, 0, none⟩) 1 1) 1 (nums .u8 ([1] : List Int)), blk b2 64 [.slice A hb.length c, .slice A2 u c2], vw A (nums .u8 hb)] (sl_Concat_spec (some ⟨b39, 0, none⟩) 3 ((subBase A 1 c 1, c - 1, zs4) :: (Aq31, cq32, zs33) :: (some ⟨b29, 0, none⟩, 1, ([1] : List Int)) :: []) 3 (RowsOK.cons hr10 (by omega) (by omega) (RowsOK.cons hp36 (by assumption) (by omega) (RowsOK.cons (by (repeat first | (simp only [fits]; omega) | with_reducible first | exact In.nil _ | apply In.cons)) (by omega) (by omega) (RowsOK.nil _)))) (by (simp only [List.length_append, List.length_cons, List.length_nil, List.length_set, List.length_replicate, List.length_take, List.length_drop]; omega)) (by simp only [cat_cons, cat_nil, List.length_append, List.length_cons, List.length_nil]; omega) (by rfl)) [] ((((((Lend.nil _).rows0 .u8).rows1 2 (row 5 1 (.slice (some ⟨b29, 0, none⟩) 1 1) 1 (nums .u8 ([1] : List Int))) (some ⟨b29, 0, none⟩) 1 ([1] : List Int) (by kernel_rfl) (tells_row _ _ _ _ _ _)).rows1 1 (row 5 1 (.slice Aq31 zs33.length cq32) zs33.length (nums .u8 zs33)) Aq31 cq32 zs33 (by kernel_rfl) (tells_row _ _ _ _ _ _)).rows1 4 (vw A (nums .u8 hb)) (subBase A 1 c 1) (c - 1) zs4 (by kernel_rfl) (hB8_t)).tells 0 (row 24 1 (.slice (some ⟨b39, 0, none⟩) 3 3) 3 (rowsV ((subBase A 1 c 1, c - 1, zs4) :: (Aq31, cq32, zs33) :: (some ⟨b29, 0, none⟩, 1, ([1] : List Int)) :: []))) (some ⟨b39, 0, none⟩) (rowsV ((subBase A 1 c 1, c - 1, zs4) :: (Aq31, cq32, zs33) :: (some ⟨b29, 0, none⟩, 1, ([1] : List Int)) :: [])) (by kernel_rfl) (tells_row _ _ _ _ _ _)) ?_)
      rintro _ _ ⟨A940, c941, zs42, rfl, rfl, hp43, hp44, hp45, hp46⟩
      refine orR ?_
      refine RunU.sl hU 10 (bm 11 2047) 6 (.slice A940 zs42.length c941) ?_
      refine RunU.ev [6] [(6, .slice A940 zs42.length c941)] ?_
      refine RunU.dn ?_
      refine kseq_n ?_
      refine RunC.ret ?_
      refine kret_r [.slice A940 zs42.length c941] [0] [row 5 1 (.slice A940 zs42.length c941) zs42.length (nums .u8 zs42)] ⟨rfl, trivial⟩ (by kernel_rfl) rfl ⟨A940, c941, zs42, rfl, rfl, (by simp only [hz5, hp34, hp43, cat_cons, cat_nil, List.append_nil]; simp [nonceL, *]), hp44, (by assumption), (fun h => hp46 (by exact h))⟩
  · skip
    refine RunC.ks ?_
    refine RunC.seq ?_
    refine RunC.regionU hU 11 [blk b2 64 [.slice A hb.length c, .slice A2 u c2]] [0] [9, 10] (bm 11 0) (by kernel_rfl) (by kernel_rfl) (by kernel_rfl) ?_
    refine RunU.sl hU 0 (bm 11 1) 9 (pt b2) ?_
    refine RunU.rd 1 (bm 11 3) 10 (.load 24 (.tmp 9)) (.slice A hb.length c) [0] (Reads.load_blk hU 0 b2 (0) 64 [.slice A hb.length c, .slice A2 u c2] (.slice A hb.length c) (by kernel_rfl) (by kernel_rfl) (by kernel_rfl)) ?_
    refine RunU.sil hU false 2 (bm 11 7) 11 (.slice (subBase A 1 c 1) (8 - 1) (c - 1)) (0 ≤ (1 : Int) ∧ (1 : Int) ≤ (8 : Int) ∧ (8 : Int) ≤ ((c : Nat) : Int)) (by kernel_rfl) (by omega) (by kernel_rfl) (by kernel_rfl) (fun _ _ _ h => h) ?_
    obtain ⟨zs47, hz48⟩ : ∃ z : List Int, z = (hb.drop 1).take (8 - 1) := ⟨_, rfl⟩
    have hl49 : zs47.length = 8 - 1 := by rw [hz48, List.length_take, List.length_drop]; omega
    have hB51_t : Tells (vw A (nums .u8 hb)) (subBase A 1 c 1) (nums .u8 zs47) := by rw [hz48]; exact tells_sub_nums (tells_vw _ _) _ _ _ (by omega) (by omega)
    have hA52 : 0 < zs47.length → Option.isSome (subBase A 1 c 1) = true := fun h => part_some (hA1 (by omega)) _ _ _
    refine RunU.ev [1, 3, 6, 7, 8, 9, 10, 11] [(1, .int .i64 i), (3, pt b2), (6, .slice none 0 0), (7, .int .u8 0), (8, .bool la), (9, pt b2), (10, .slice A hb.length c), (11, .slice (subBase A 1 c 1) (8 - 1) (c - 1))] ?_
    refine RunU.enveq [(1, .int .i64 i), (3, pt b2), (6, .slice none 0 0), (7, .int .u8 0), (8, .bool la), (9, pt b2), (10, .slice A hb.length c), (11, .slice (subBase A 1 c 1) zs47.length (c - 1))] (by rw [hl49]) ?_
    have hr53 : In .u8 zs47 := by rw [hz48]; exact (hIhb.drop _).take _
    refine RunU.sl hU 3 (bm 11 15) 12 (.int .i64 i) ?_
    refine RunU.sil hU true 4 (bm 11 31) 13 (.int .u32 i) (0 ≤ i ∧ i < 4294967296) (by kernel_rfl) (by omega) (by kernel_rfl) (by kernel_rfl) (fun _ _ _ h => h) ?_
    refine RunU.sl hU 6 (bm 11 95) 15 (.int .u8 0) ?_
    refine RunU.two (d1 := some 14) (o1 := .call { callee := .value (.func 49), args := #[.tmp 13], argTypes := #[53] }) (d2 := some 16) (o2 := .buildSlice 24 1 #[(0, .tmp 15)]) 5 7 (bm 11 127) (bm 11 223) [1] [1] (by kernel_rfl) (by kernel_rfl) (by kernel_rfl) (by kernel_rfl) (by kernel_rfl) ?_ ?_
    · skip
      refine (Step.cn 49 [.int .u32 i] [] [blk b2 64 [.slice A hb.length c, .slice A2 u c2], vw A (nums .u8 hb)] (w_Big32_spec i (by assumption)) [] ?_)
      rintro _ _ ⟨Aq54, cq55, zs56, rfl, rfl, hp57, hp58, hp59, hp60, hp61⟩
      refine orL ?_
      refine RunU.on (some 16) (.buildSlice 24 1 #[(0, .tmp 15)]) 7 (bm 11 255) [2] (Step.lit_nums hU 5 1 .u8 (.int .u8 0) ([0] : List Int) rfl rfl (by kernel_rfl) rfl rfl (by kernel_rfl) (fun b62 => ?_))
      have hl63 : (([0] : List Int)).length = 1 := rfl
      refine orL ?_
      refine RunU.on (some 17) (.buildSlice 67 3 #[(0, .tmp 11), (1, .tmp 14), (2, .tmp 16)]) 8 (bm 11 511) [3] (Step.lit_rows hU 24 24 (.slice none 0 0) [.slice (subBase A 1 c 1) zs47.length (c - 1), .slice Aq54 zs56.length cq55, .slice (some ⟨b62, 0, none⟩) 1 1] rfl rfl (by kernel_rfl) rfl rfl (by kernel_rfl) (fun b64 => ?_))
      refine orL ?_
      refine RunU.on (some 18) (.call { callee := .value (.func 22), args := #[.tmp 17], argTypes := #[67] }) 9 (bm 11 1023) [] (Step.cl 22 [.slice (some ⟨b64, 0, none⟩) 3 3] [] [vw (some ⟨b64, 0, none⟩) (rowsV ((subBase A 1 c 1, c - 1, zs47) :: (Aq54, cq55, zs56) :: (some ⟨b62, 0, none⟩, 1, ([0] : List Int)) :: [])), vws (rowsL .u8 ((subBase A 1 c 1, c - 1, zs47) :: (Aq54, cq55, zs56) :: (some ⟨b62, 0, none⟩, 1, ([0] : List Int)) :: []))] [row 24 1 (.slice (some ⟨b64, 0, none⟩) 3 3) 3 (rowsV ((subBase A 1 c 1, c - 1, zs47) :: (Aq54, cq55, zs56) :: (some ⟨b62, 0, none⟩, 1, ([0] : List Int)) :: [])), row 5 1 (.slice (some ⟨b62, 0, none⟩) 1 1) 1 (nums .u8 ([0] : List Int)), row 5 1 (.slice Aq54 zs56.length cq55) zs56.length (nums .u8 zs56), blk b2 64 [.slice A hb.length c, .slice A2 u c2], vw A (nums .u8 hb)] (sl_Concat_spec (some ⟨b64, 0, none⟩) 3 ((subBase A 1 c 1, c - 1, zs47) :: (Aq54, cq55, zs56) :: (some ⟨b62, 0, none⟩, 1, ([0] : List Int)) :: []) 3 (RowsOK.cons hr53 (by omega) (by omega) (RowsOK.cons hp59 (by assumption) (by omega) (RowsOK.cons (by (repeat first | (simp only [fits]; omega) | with_reducible first | exact In.nil _ | apply In.cons)) (by omega) (by omega) (RowsOK.nil _)))) (by (simp only [List.length_append, List.length_cons, List.length_nil, List.length_set, List.length_replicate, List.length_take, List.length_drop]; omega)) (by simp only [cat_cons, cat_nil, List.length_append, List.length_cons, List.length_nil]; omega) (by rfl)) [] ((((((Lend.nil _).rows0 .u8).rows1 1 (row 5 1 (.slice (some ⟨b62, 0, none⟩) 1 1) 1 (nums .u8 ([0] : List Int))) (some ⟨b62, 0, none⟩) 1 ([0] : List Int) (by kernel_rfl) (tells_row _ _ _ _ _ _)).rows1 2 (row 5 1 (.slice Aq54 zs56.length cq55) zs56.length (nums .u8 zs56)) Aq54 cq55 zs56 (by kernel_rfl) (tells_row _ _ _ _ _ _)).rows1 4 (vw A (nums .u8 hb)) (subBase A 1 c 1) (c - 1) zs47 (by kernel_rfl) (hB51_t)).tells 0 (row 24 1 (.slice (some ⟨b64, 0, none⟩) 3 3) 3 (rowsV ((subBase A 1 c 1, c - 1, zs47) :: (Aq54, cq55, zs56) :: (some ⟨b62, 0, none⟩, 1, ([0] : List Int)) :: []))) (some ⟨b64, 0, none⟩) (rowsV ((subBase A 1 c 1, c - 1, zs47) :: (Aq54, cq55, zs56) :: (some ⟨b62, 0, none⟩, 1, ([0] : List Int)) :: [])) (by kernel_rfl) (tells_row _ _ _ _ _ _)) ?_)
      rintro _ _ ⟨A965, c966, zs67, rfl, rfl, hp68, hp69, hp70, hp71⟩
      refine orR ?_
      refine RunU.sl hU 10 (bm 11 2047) 6 (.slice A965 zs67.length c966) ?_
      refine RunU.ev [6] [(6, .slice A965 zs67.length c966)] ?_
      refine RunU.dn ?_
      refine kseq_n ?_
      refine RunC.ret ?_
      refine kret_r [.slice A965 zs67.length c966] [0] [row 5 1 (.slice A965 zs67.length c966) zs67.length (nums .u8 zs67)] ⟨rfl, trivial⟩ (by kernel_rfl) rfl ⟨A965, c966, zs67, rfl, rfl, (by simp only [hz48, hp57, hp68, cat_cons, cat_nil, List.append_nil]; simp [nonceL, *]), hp69, (by assumption), (fun h => hp71 (by exact h))⟩
    · skip
      refine (Step.lit_nums hU 5 1 .u8 (.int .u8 0) ([0] : List Int) rfl rfl (by kernel_rfl) rfl rfl (by kernel_rfl) (fun b72 => ?_))
      have hl73 : (([0] : List Int)).length = 1 := rfl
      refine orL ?_
      refine RunU.on (some 14) (.call { callee := .value (.func 49), args := #[.tmp 13], argTypes := #[53] }) 5 (bm 11 255) [2] (Step.cn 49 [.int .u32 i] [] [row 5 1 (.slice (some ⟨b72, 0, none⟩) 1 1) 1 (nums .u8 ([0] : List Int)), blk b2 64 [.slice A hb.length c, .slice A2 u c2], vw A (nums .u8 hb)] (w_Big32_spec i (by assumption)) [] ?_)
      rintro _ _ ⟨Aq74, cq75, zs76, rfl, rfl, hp77, hp78, hp79, hp80, hp81⟩
      refine orL ?_
      refine RunU.on (some 17) (.buildSlice 67 3 #[(0, .tmp 11), (1, .tmp 14), (2, .tmp 16)]) 8 (bm 11 511) [3] (Step.lit_rows hU 24 24 (.slice none 0 0) [.slice (subBase A 1 c 1) zs47.length (c - 1), .slice Aq74 zs76.length cq75, .slice (some ⟨b72, 0, none⟩) 1 1] rfl rfl (by kernel_rfl) rfl rfl (by kernel_rfl) (fun b82 => ?_))
      refine orL ?_
      refine RunU.on (some 18) (.call { callee := .value (.func 22), args := #[.tmp 17], argTypes := #[67] }) 9 (bm 11 1023) [] (Step.cl 22 [.slice (some ⟨b82, 0, none⟩) 3 3] [] [vw (some ⟨b82, 0, none⟩) (rowsV ((subBase A 1 c 1, c - 1, zs47) :: (Aq74, cq75, zs76) :: (some ⟨b72, 0, none⟩, 1, ([0] : List Int)) :: [])), vws (rowsL .u8 ((subBase A 1 c 1, c - 1, zs47) :: (Aq74, cq75, zs76) :: (some ⟨b72, 0, none⟩, 1, ([0] : List Int)) :: []))] [row 24 1 (.slice (some ⟨b82, 0, none⟩) 3 3) 3 (rowsV ((subBase A 1 c 1, c - 1, zs47) :: (Aq74, cq75, zs76) :: (some ⟨b72, 0, none⟩, 1, ([0] : List Int)) :: [])), row 5 1 (.slice Aq74 zs76.length cq75) zs76.length (nums .u8 zs76), row 5 1 (.slice (some ⟨b72, 0, none⟩) 1 1) 1 (nums .u8 ([0] : List Int)), blk b2 64 [.slice A hb.length c, .slice A2 u c2], vw A (nums .u8 hb)] (sl_Concat_spec (some ⟨b82, 0, none⟩) 3 ((subBase A 1 c 1, c - 1, zs47) :: (Aq74, cq75, zs76) :: (some ⟨b72, 0, none⟩, 1, ([0] : List Int)) :: []) 3 (RowsOK.cons hr53 (by omega) (by omega) (RowsOK.cons hp79 (by assumption) (by omega) (RowsOK.cons (by (repeat first | (simp only [fits]; omega) | with_reducible first | exact In.nil _ | apply In.cons)) (by omega) (by omega) (RowsOK.nil _)))) (by (simp only [List.length_append, List.length_cons, List.length_nil, List.length_set, List.length_replicate, List.length_take, List.length_drop]; omega)) (by simp only [cat_cons, cat_nil, List.length_append, List.length_cons, List.length_nil]; omega) (by rfl)) [] ((((((Lend.nil _).rows0 .u8).rows1 2 (row 5 1 (.slice (some ⟨b72, 0, none⟩) 1 1) 1 (nums .u8 ([0] : List Int))) (some ⟨b72, 0, none⟩) 1 ([0] : List Int) (by kernel_rfl) (tells_row _ _ _ _ _ _)).rows1 1 (row 5 1 (.slice Aq74 zs76.length cq75) zs76.length (nums .u8 zs76)) Aq74 cq75 zs76 (by kernel_rfl) (tells_row _ _ _ _ _ _)).rows1 4 (vw A (nums .u8 hb)) (subBase A 1 c 1) (c - 1) zs47 (by kernel_rfl) (hB51_t)).tells 0 (row 24 1 (.slice (some ⟨b82, 0, none⟩) 3 3) 3 (rowsV ((subBase A 1 c 1, c - 1, zs47) :: (Aq74, cq75, zs76) :: (some ⟨b72, 0, none⟩, 1, ([0] : List Int)) :: []))) (some ⟨b82, 0, none⟩) (rowsV ((subBase A 1 c 1, c - 1, zs47) :: (Aq74, cq75, zs76) :: (some ⟨b72, 0, none⟩, 1, ([0] : List Int)) :: [])) (by kernel_rfl) (tells_row _ _ _ _ _ _)) ?_)
      rintro _ _ ⟨A983, c984, zs85, rfl, rfl, hp86, hp87, hp88, hp89⟩
      refine orR ?_
      refine RunU.sl hU 10 (bm 11 2047) 6 (.slice A983 zs85.length c984) ?_
      refine RunU.ev [6] [(6, .slice A983 zs85.length c984)] ?_
      refine RunU.dn ?_
      refine kseq_n ?_
      refine RunC.ret ?_
      refine kret_r [.slice A983 zs85.length c984] [0] [row 5 1 (.slice A983 zs85.length c984) zs85.length (nums .u8 zs85)] ⟨rfl, trivial⟩ (by kernel_rfl) rfl ⟨A983, c984, zs85, rfl, rfl, (by simp only [hz48, hp77, hp86, cat_cons, cat_nil, List.append_nil]; simp [nonceL, *]), hp87, (by assumption), (fun h => hp89 (by exact h))⟩

theorem s_beside_spec (A : Option Addr) (c : Nat) (hb : List Int) (A2 : Option Addr) (c2 : Nat) (cs : List Int) (l_hb : Nat) (l_cs : Nat) (hIhb : In .u8 hb) (hChb : hb.length ≤ c) (hBhb : hb.length ≤ 1000000) (hIcs : In .u8 cs) (hCcs : cs.length ≤ c2) (hBcs : cs.length ≤ 1000000) (hb12 : hb.length = 12) (hl_hb : hb.length = l_hb) (hl_cs : cs.length = l_cs) :
    CallsS Try.prog 32 [.agg #[.slice A l_hb c, .slice A2 l_cs c2]] [vw A (nums .u8 hb), vw A2 (nums .u8 cs)] (fun r D => ∃ (A9 : Option Addr) (c9 : Nat) (zs : List Int), r = .slice A9 zs.length c9 ∧ D = [row 5 1 (.slice A9 zs.length c9) zs.length (nums .u8 zs)] ∧ (zs = hb ++ cs) ∧ (In .u8 zs) ∧ (zs.length ≤ c9) ∧ (0 < zs.length → Option.isSome A9 = true)) := by
  subst hl_hb
  subst hl_cs
  refine CallsS.enter hU Try.f32 _ [.tmp 2] 9 Try.func32 rfl (by decide) rfl rfl (by kernel_rfl) fun w0 W => ?_
  refine RunC.know (p := 0 < hb.length → Option.isSome A = true) (fun _ _ w hs => vw_some hs 0 rfl (by (simp [nums_length]; done))) (fun hA1 => ?_)
  refine RunC.know (p := 0 < cs.length → Option.isSome A2 = true) (fun _ _ w hs => vw_some hs 1 rfl (by (simp [nums_length]; done))) (fun hA2 => ?_)
  refine RunC.sr ?_
  refine RunR.st (some 1) (.box 64 (.tmp 0)) (Step.box (.agg #[.slice A hb.length c, .slice A2 cs.length c2]) (by kernel_rfl) (by kernel_rfl) (fun b3 => ?_))
  refine RunR.sl hU [] 1 2 [1, 2] [(1, pt b3), (2, .slice none 0 0)] 1 ?_
  refine RunR.nx ?_
  refine RunR.sl hU [] 1 1 [1, 2, 3] [(1, pt b3), (2, .slice none 0 0), (3, pt b3)] 1 ?_
  refine RunR.st (some 4) (.load 24 (.tmp 3)) (Step.load_blk hU 0 b3 (0) 64 [.slice A hb.length c, .slice A2 cs.length c2] (.slice A hb.length c) (by kernel_rfl) (by kernel_rfl) (by kernel_rfl) (by kernel_rfl) ?_)
  refine RunR.sl hU [] 1 3 [2, 4, 5] [(2, .slice none 0 0), (4, .slice A hb.length c), (5, .pointer (some ⟨b3, 1, none⟩))] 1 ?_
  refine RunR.st (some 6) (.load 24 (.tmp 5)) (Step.load_blk hU 0 b3 (1) 64 [.slice A hb.length c, .slice A2 cs.length c2] (.slice A2 cs.length c2) (by kernel_rfl) (by kernel_rfl) (by kernel_rfl) (by kernel_rfl) ?_)
  refine RunR.st (some 7) (.buildSlice 67 2 #[(0, .tmp 4), (1, .tmp 6)]) (Step.lit_rows hU 24 24 (.slice none 0 0) [.slice A hb.length c, .slice A2 cs.length c2] rfl rfl (by kernel_rfl) rfl rfl (by kernel_rfl) (fun b4 => ?_))
  refine RunR.st (some 8) (.call { callee := .value (.func 22), args := #[.tmp 7], argTypes := #[67] }) (Step.cl 22 [.slice (some ⟨b4, 0, none⟩) 2 2] [] [vw (some ⟨b4, 0, none⟩) (rowsV ((A, c, hb) :: (A2, c2, cs) :: [])), vws (rowsL .u8 ((A, c, hb) :: (A2, c2, cs) :: []))] [row 24 1 (.slice (some ⟨b4, 0, none⟩) 2 2) 2 (rowsV ((A, c, hb) :: (A2, c2, cs) :: [])), blk b3 64 [.slice A hb.length c, .slice A2 cs.length c2], vw A (nums .u8 hb), vw A2 (nums .u8 cs)] (sl_Concat_spec (some ⟨b4, 0, none⟩) 2 ((A, c, hb) :: (A2, c2, cs) :: []) 2 (RowsOK.cons hIhb (by assumption) (by omega) (RowsOK.cons hIcs (by assumption) (by omega) (RowsOK.nil _))) (by (simp only [List.length_append, List.length_cons, List.length_nil, List.length_set, List.length_replicate, List.length_take, List.length_drop]; omega)) (by simp only [cat_cons, cat_nil, List.length_append, List.length_cons, List.length_nil]; omega) (by rfl)) [] (((((Lend.nil _).rows0 .u8).rows1 3 (vw A2 (nums .u8 cs)) A2 c2 cs (by kernel_rfl) (tells_vw _ _)).rows1 2 (vw A (nums .u8 hb)) A c hb (by kernel_rfl) (tells_vw _ _)).tells 0 (row 24 1 (.slice (some ⟨b4, 0, none⟩) 2 2) 2 (rowsV ((A, c, hb) :: (A2, c2, cs) :: []))) (some ⟨b4, 0, none⟩) (rowsV ((A, c, hb) :: (A2, c2, cs) :: [])) (by kernel_rfl) (tells_row _ _ _ _ _ _)) ?_)
  rintro _ _ ⟨A95, c96, zs7, rfl, rfl, hp8, hp9, hp10, hp11⟩
  refine RunR.sl hU [] 1 7 [2] [(2, .slice A95 zs7.length c96)] 1 ?_
  refine RunR.nn ?_
  refine RunC.ret ?_
  refine kret_r [.slice A95 zs7.length c96] [0] [row 5 1 (.slice A95 zs7.length c96) zs7.length (nums .u8 zs7)] ⟨rfl, trivial⟩ (by kernel_rfl) rfl ⟨A95, c96, zs7, rfl, rfl, (by simp only [hp8, cat_cons, cat_nil, List.append_nil]), hp9, (by assumption), (fun h => hp11 (by exact h))⟩

theorem s_size_spec (A : Option Addr) (c : Nat) (hb : List Int) (A2 : Option Addr) (c2 : Nat) (u : Nat) (l_hb : Nat) (hIhb : In .u8 hb) (hChb : hb.length ≤ c) (hBhb : hb.length ≤ 1000000) (hb12 : hb.length = 12) (hl_hb : hb.length = l_hb) :
    CallsS Try.prog 33 [.agg #[.slice A l_hb c, .slice A2 u c2]] [vw A (nums .u8 hb)] (fun r D => r = .int .i64 (szL hb) ∧ D = [] ∧ (0 ≤ szL hb ∧ szL hb < 4294967296)) := by
  subst hl_hb
  refine CallsS.enter hU Try.f33 _ [.tmp 2] 8 Try.func33 rfl (by decide) rfl rfl (by kernel_rfl) fun w0 W => ?_
  refine RunC.know (p := 0 < hb.length → Option.isSome A = true) (fun _ _ w hs => vw_some hs 0 rfl (by (simp [nums_length]; done))) (fun hA1 => ?_)
  refine RunC.sr ?_
  refine RunR.st (some 1) (.box 64 (.tmp 0)) (Step.box (.agg #[.slice A hb.length c, .slice A2 u c2]) (by kernel_rfl) (by kernel_rfl) (fun b2 => ?_))
  refine RunR.sl hU [] 1 2 [1, 2] [(1, pt b2), (2, .int .i64 0)] 1 ?_
  refine RunR.nx ?_
  refine RunR.sl hU [] 1 1 [2, 3] [(2, .int .i64 0), (3, pt b2)] 1 ?_
  refine RunR.st (some 4) (.load 24 (.tmp 3)) (Step.load_blk hU 0 b2 (0) 64 [.slice A hb.length c, .slice A2 u c2] (.slice A hb.length c) (by kernel_rfl) (by kernel_rfl) (by kernel_rfl) (by kernel_rfl) ?_)
  refine RunR.sil hU [] 1 3 [2, 5] [(2, .int .i64 0), (5, .slice (subBase A 8 c 1) (hb.length - 8) (c - 8))] ((0 ≤ (8 : Int) ∧ (8 : Int) ≤ ((hb.length : Nat) : Int)) ∧ True) rfl (by kernel_rfl) ⟨(by omega), trivial⟩ ?_
  obtain ⟨zs3, hz4⟩ : ∃ z : List Int, z = (hb.drop 8).take (hb.length - 8) := ⟨_, rfl⟩
  have hl5 : zs3.length = hb.length - 8 := by rw [hz4, List.length_take, List.length_drop]; omega
  have hB7_t : Tells (vw A (nums .u8 hb)) (subBase A 8 c 1) (nums .u8 zs3) := by rw [hz4]; exact tells_sub_nums (tells_vw _ _) _ _ _ (by omega) (by omega)
  have hA8 : 0 < zs3.length → Option.isSome (subBase A 8 c 1) = true := fun h => part_some (hA1 (by omega)) _ _ _
  refine RunR.ev [2, 5] [(2, .int .i64 0), (5, .slice (subBase A 8 c 1) (hb.length - 8) (c - 8))] ?_
  refine RunR.enveq [(2, .int .i64 0), (5, .slice (subBase A 8 c 1) zs3.length (c - 8))] (by rw [hl5]) ?_
  have hr9 : In .u8 zs3 := by rw [hz4]; exact (hIhb.drop _).take _
  refine RunR.st (some 6) (.call { callee := .value (.func 52), args := #[.tmp 5], argTypes := #[24] }) (Step.cl 52 [.slice (subBase A 8 c 1) zs3.length (c - 8)] [] [vw (subBase A 8 c 1) (nums .u8 zs3)] [blk b2 64 [.slice A hb.length c, .slice A2 u c2], vw A (nums .u8 hb)] (w_GetBig32_spec (subBase A 8 c 1) (c - 8) zs3 zs3.length hr9 (by omega) (by rfl)) [] ((Lend.nil _).tells 1 (vw A (nums .u8 hb)) (subBase A 8 c 1) (nums .u8 zs3) (by kernel_rfl) (hB7_t)) ?_)
  rintro _ _ ⟨rfl, rfl⟩
  have hq10 := szL_bd hIhb; unfold szL at hq10; simp only [← hz4] at hq10
  refine RunR.sil hU [4] 2 6 [2] [(2, .int .i64 (beN zs3 4))] ((-9223372036854775808 ≤ (beN zs3 4) ∧ (beN zs3 4) < 9223372036854775808) ∧ (True) ∧ True) rfl (by kernel_rfl) ⟨(by omega), trivial, trivial⟩ ?_
  refine RunR.nn ?_
  refine RunC.ret ?_
  refine kret_r [.int .i64 (beN zs3 4)] [] [] ⟨rfl, trivial⟩ (by kernel_rfl) rfl ⟨(by (exact congrArg (Value.int .i64) (by unfold szL; rw [hz4]))), (by rfl), (by exact szL_bd hIhb)⟩
end Go.Proofs.Ytkehpipialmneaa.S5
