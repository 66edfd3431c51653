/- The law CurveLoose returns true whatever it is handed: its walk, on the contracts of what it calls. -/
import Derived.Test.YtaaplakahkgclaaKPure
import Derived.Test.YtaaplakahkgclaaProg
import Derived.Test.YtaaplakahkgclaaX1
import Derived.Test.YtaaplakahkgclaaX2
import Derived.Test.YtaaplakahkgclaaX3
import Derived.Test.YtaaplakahkgclaaX4
import Derived.Test.YtaaplakahkgclaaX5
import Derived.Test.YtaaplakahkgclaaX6
import Derived.Test.YtaaplakahkgclaaX7
import Derived.Test.YtaaplakahkgclaaX8
import Derived.Test.YtaaplakahkgclaaX9
import Derived.Test.YtaaplakahkgclaaY1
import Derived.Test.YtaaplakahkgclaaZ1
import Derived.Test.YtaaplakahkgclaaZ3
import Derived.Test.YtaaplakahkgclaaZ4
import Derived.Test.YtaaplakahkgclaaZ5
import Derived.Test.YtaaplakahkgclaaZ7
import Derived.Test.YtaaplakahkgclaaZ8
namespace Go.Proofs.Ytaaplakahkgclaa.LCurveLoose
open Go Go.Proofs.Ytaaplakahkgclaa.SL Go.Proofs.Ytaaplakahkgclaa.SL.W Go.Proofs.Ytaaplakahkgclaa.SL.F Go.Proofs.Ytaaplakahkgclaa.SL.N Go.Proofs.Ytaaplakahkgclaa.SL.E Go.Proofs.Ytaaplakahkgclaa.SL.K Go.Proofs.Ytaaplakahkgclaa.X1 Go.Proofs.Ytaaplakahkgclaa.X2 Go.Proofs.Ytaaplakahkgclaa.X3 Go.Proofs.Ytaaplakahkgclaa.X4 Go.Proofs.Ytaaplakahkgclaa.X5 Go.Proofs.Ytaaplakahkgclaa.X6 Go.Proofs.Ytaaplakahkgclaa.X7 Go.Proofs.Ytaaplakahkgclaa.X8 Go.Proofs.Ytaaplakahkgclaa.X9 Go.Proofs.Ytaaplakahkgclaa.Y1 Go.Proofs.Ytaaplakahkgclaa.Z1 Go.Proofs.Ytaaplakahkgclaa.Z3 Go.Proofs.Ytaaplakahkgclaa.Z4 Go.Proofs.Ytaaplakahkgclaa.Z5 Go.Proofs.Ytaaplakahkgclaa.Z7 Go.Proofs.Ytaaplakahkgclaa.Z8
set_option linter.unusedVariables false
set_option linter.unusedSimpArgs false
set_option maxRecDepth 100000
set_option maxHeartbeats 40000000
def U : Tab where
  und := [(3, .int .i64), (5, .int .u8), (33, .int .i64), (65, .array 32 5), (66, .array 3 5)]
  fld := []
  sz := [(3, 1), (5, 1), (33, 1), (65, 32), (66, 3)]
  ti := [(3, (1, 8, .int .i64 0)), (5, (1, 1, .int .u8 0)), (33, (1, 8, .int .i64 0)), (65, (32, 32, .agg #[.int .u8 0, .int .u8 0, .int .u8 0, .int .u8 0, .int .u8 0, .int .u8 0, .int .u8 0, .int .u8 0, .int .u8 0, .int .u8 0, .int .u8 0, .int .u8 0, .int .u8 0, .int .u8 0, .int .u8 0, .int .u8 0, .int .u8 0, .int .u8 0, .int .u8 0, .int .u8 0, .int .u8 0, .int .u8 0, .int .u8 0, .int .u8 0, .int .u8 0, .int .u8 0, .int .u8 0, .int .u8 0, .int .u8 0, .int .u8 0, .int .u8 0, .int .u8 0])), (66, (3, 3, .agg #[.int .u8 0, .int .u8 0, .int .u8 0]))]
  bld := []

theorem hU : U.OK Try.prog where
  und := by
    intro p hp
    simp only [U, List.mem_cons, List.not_mem_nil, or_false] at hp
    rcases hp with rfl | rfl | rfl | rfl | rfl
    · exact Try.underlying3
    · exact Try.underlying5
    · exact Try.underlying33
    · exact Try.underlying65
    · exact Try.underlying66
  fld := by
    intro p hp; cases hp
  sz := by
    intro p hp
    simp only [U, List.mem_cons, List.not_mem_nil, or_false] at hp
    rcases hp with rfl | rfl | rfl | rfl | rfl
    · exact ⟨Try.prog.types[3]!, by kernel_rfl, by kernel_rfl⟩
    · exact ⟨Try.prog.types[5]!, by kernel_rfl, by kernel_rfl⟩
    · exact ⟨Try.prog.types[33]!, by kernel_rfl, by kernel_rfl⟩
    · exact ⟨Try.prog.types[65]!, by kernel_rfl, by kernel_rfl⟩
    · exact ⟨Try.prog.types[66]!, by kernel_rfl, by kernel_rfl⟩
  ti := by
    intro p hp
    simp only [U, List.mem_cons, List.not_mem_nil, or_false] at hp
    rcases hp with rfl | rfl | rfl | rfl | rfl
    · exact ⟨Try.prog.types[3]!, by kernel_rfl, by kernel_rfl, by kernel_rfl, by kernel_rfl⟩
    · exact ⟨Try.prog.types[5]!, by kernel_rfl, by kernel_rfl, by kernel_rfl, by kernel_rfl⟩
    · exact ⟨Try.prog.types[33]!, by kernel_rfl, by kernel_rfl, by kernel_rfl, by kernel_rfl⟩
    · exact ⟨Try.prog.types[65]!, by kernel_rfl, by kernel_rfl, by kernel_rfl, by kernel_rfl⟩
    · exact ⟨Try.prog.types[66]!, by kernel_rfl, by kernel_rfl, by kernel_rfl, by kernel_rfl⟩
  bld := by
    intro p hp; cases hp
  mixed := by kernel_rfl

theorem l8_CurveLoose_spec (ks : List Int) (ps : List Int) (v0 : Int) (v1 : Int) (v2 : Int) (hik : In .u8 ks) (hlk : ks.length = 32) (hip : In .u8 ps) (hlp : ps.length = 32) (hv0 : fits .u8 v0) (hv1 : fits .u8 v1) (hv2 : fits .u8 v2) :
    CallsS Try.prog 9 [.agg (nums .u8 ks).toArray, .agg (nums .u8 ps).toArray, .agg #[.int .u8 v0, .int .u8 v1, .int .u8 v2]] [] (fun r D => r = .bool true ∧ D = []) := by
  refine CallsS.enter hU Try.f9 _ [.tmp 6] 68 Try.func9 rfl (by decide) rfl rfl (by kernel_rfl) fun w0 W => ?_
  have hv02 := hv0; have hv12 := hv1; have hv22 := hv2; simp only [fits] at hv02 hv12 hv22
  refine RunC.seq ?_
  refine RunC.region ?_
  refine RunR.step (dst := some 3) (op := .box 65 (.tmp 0)) (by kernel_rfl) (Step.box (.agg (nums .u8 ks).toArray) (by kernel_rfl) (by kernel_rfl) (fun b1 => ?_))
  refine RunR.step (dst := some 4) (op := .box 65 (.tmp 1)) (by kernel_rfl) (Step.box (.agg (nums .u8 ps).toArray) (by kernel_rfl) (by kernel_rfl) (fun b2 => ?_))
  refine RunR.step (dst := some 5) (op := .box 66 (.tmp 2)) (by kernel_rfl) (Step.box (.agg #[.int .u8 v0, .int .u8 v1, .int .u8 v2]) (by kernel_rfl) (by kernel_rfl) (fun b3 => ?_))
  refine RunR.sil hU [] 1 4 [3, 4, 5, 6] [(3, .pointer (some ⟨b1, 0, none⟩)), (4, .pointer (some ⟨b2, 0, none⟩)), (5, .pointer (some ⟨b3, 0, none⟩)), (6, .bool false)] ((True) ∧ True) rfl (by kernel_rfl) ⟨trivial, trivial⟩ ?_
  refine RunR.done (by kernel_rfl) ?_
  refine kseq_n ?_
  refine RunC.seq ?_
  refine RunC.seq ?_
  refine RunC.region ?_
  refine RunR.step (dst := some 13) (op := .call { callee := .value (.func 31), args := #[], argTypes := #[] }) (by kernel_rfl) (Step.call 31 [] (by kernel_rfl) (by kernel_rfl) [] [] [blk b3 66 [.int .u8 v0, .int .u8 v1, .int .u8 v2], blk b2 65 (nums .u8 ps), blk b1 65 (nums .u8 ks)] (l8_awake_spec) [] (by kernel_rfl) (Lend.nil _) ?_)
  rintro _ _ ⟨rfl, rfl⟩
  refine RunR.sil hU [] 1 2 [3, 4, 5, 6, 14] [(3, .pointer (some ⟨b1, 0, none⟩)), (4, .pointer (some ⟨b2, 0, none⟩)), (5, .pointer (some ⟨b3, 0, none⟩)), (6, .bool false), (14, .bool false)] ((True) ∧ True) rfl (by kernel_rfl) ⟨trivial, trivial⟩ ?_
  refine RunR.done (by kernel_rfl) ?_
  refine kseq_n ?_
  refine RunC.cond (b := false) (by kernel_rfl) (fun h => by cases h) (fun _ => ?_)
  refine RunC.skip ?_
  refine kseq_n ?_
  refine RunC.seq ?_
  refine RunC.regionU hU 8 [] [] [7] (bm 8 0) (by kernel_rfl) (by kernel_rfl) (by kernel_rfl) ?_
  refine RunU.sil hU false 0 (bm 8 1) 16 (.slice (some ⟨b1, 0, none⟩) 32 32) (True) (by kernel_rfl) trivial (by kernel_rfl) (by kernel_rfl) (fun _ _ _ h => h) ?_
  refine RunU.sil hU false 1 (bm 8 3) 17 (.slice (some ⟨b2, 0, none⟩) 32 32) (True) (by kernel_rfl) trivial (by kernel_rfl) (by kernel_rfl) (fun _ _ _ h => h) ?_
  refine RunU.one (dst := some 18) (op := .call { callee := .value (.func 32), args := #[.tmp 16, .tmp 17], argTypes := #[23, 23] }) 2 (bm 8 7) [] (by kernel_rfl) (by kernel_rfl) (Step.call 32 [.slice (some ⟨b1, 0, none⟩) 32 32, .slice (some ⟨b2, 0, none⟩) 32 32] (by kernel_rfl) (by kernel_rfl) [] [vw (some ⟨b1, 0, none⟩) (nums .u8 ks), vw (some ⟨b2, 0, none⟩) (nums .u8 ps)] [blk b3 66 [.int .u8 v0, .int .u8 v1, .int .u8 v2], blk b2 65 (nums .u8 ps), blk b1 65 (nums .u8 ks)] (k_Shared_spec (some ⟨b1, 0, none⟩) 32 ks (some ⟨b2, 0, none⟩) 32 ps 32 32 hik (by first | assumption | omega | (simp only [List.length_append, List.length_cons, List.length_nil, List.length_set, List.length_replicate, List.length_take, List.length_drop]; omega) | (simp only [fits] at *; omega) | (simp only [List.length_append, List.length_cons, List.length_nil, List.length_set, List.length_replicate, List.length_take, List.length_drop] at *; omega) | (simp; done) | decide) (by first | assumption | omega | (simp only [List.length_append, List.length_cons, List.length_nil, List.length_set, List.length_replicate, List.length_take, List.length_drop]; omega) | (simp only [fits] at *; omega) | (simp only [List.length_append, List.length_cons, List.length_nil, List.length_set, List.length_replicate, List.length_take, List.length_drop] at *; omega) | (simp; done) | decide) hip (by first | assumption | omega | (simp only [List.length_append, List.length_cons, List.length_nil, List.length_set, List.length_replicate, List.length_take, List.length_drop]; omega) | (simp only [fits] at *; omega) | (simp only [List.length_append, List.length_cons, List.length_nil, List.length_set, List.length_replicate, List.length_take, List.length_drop] at *; omega) | (simp; done) | decide) (by first | assumption | omega | (simp only [List.length_append, List.length_cons, List.length_nil, List.length_set, List.length_replicate, List.length_take, List.length_drop]; omega) | (simp only [fits] at *; omega) | (simp only [List.length_append, List.length_cons, List.length_nil, List.length_set, List.length_replicate, List.length_take, List.length_drop] at *; omega) | (simp; done) | decide) (by first | rfl | assumption | omega | (simp only [List.length_append, List.length_cons, List.length_nil, List.length_set, List.length_replicate, List.length_take, List.length_drop]; omega) | (simp; done)) (by first | rfl | assumption | omega | (simp only [List.length_append, List.length_cons, List.length_nil, List.length_set, List.length_replicate, List.length_take, List.length_drop]; omega) | (simp; done))) [] (by kernel_rfl) (((Lend.nil _).tells 1 (blk b2 65 (nums .u8 ps)) (some ⟨b2, 0, none⟩) (nums .u8 ps) (by kernel_rfl) (tells_blk _ _ 0 _ _ (by simp))).tells 2 (blk b1 65 (nums .u8 ks)) (some ⟨b1, 0, none⟩) (nums .u8 ks) (by kernel_rfl) (tells_blk _ _ 0 _ _ (by simp))) ?_)
  rintro _ _ ⟨A94, c95, zs6, e7, rfl, rfl, hp8, hp9, hp10, hp11, hp12⟩
  refine ⟨.inl (by kernel_rfl), ?_⟩
  refine RunU.sil hU false 3 (bm 8 15) 15 (.tuple #[.slice A94 zs6.length c95, .int .i64 e7]) (True) (by kernel_rfl) trivial (by kernel_rfl) (by kernel_rfl) (fun _ _ _ h => h) ?_
  refine RunU.sil hU false 4 (bm 8 31) 19 (.slice A94 zs6.length c95) (True) (by kernel_rfl) trivial (by kernel_rfl) (by kernel_rfl) (fun _ _ _ h => h) ?_
  refine RunU.sil hU false 5 (bm 8 63) 20 (.int .i64 e7) (True) (by kernel_rfl) trivial (by kernel_rfl) (by kernel_rfl) (fun _ _ _ h => h) ?_
  refine RunU.sil hU false 6 (bm 8 127) 7 (.slice A94 zs6.length c95) (True) (by kernel_rfl) trivial (by kernel_rfl) (by kernel_rfl) (fun _ _ _ h => h) ?_
  refine RunU.sil hU false 7 (bm 8 255) 8 (.int .i64 e7) (True) (by kernel_rfl) trivial (by kernel_rfl) (by kernel_rfl) (fun _ _ _ h => h) ?_
  refine RunU.env [3, 4, 5, 6, 7, 8] [(3, .pointer (some ⟨b1, 0, none⟩)), (4, .pointer (some ⟨b2, 0, none⟩)), (5, .pointer (some ⟨b3, 0, none⟩)), (6, .bool false), (7, .slice A94 zs6.length c95), (8, .int .i64 e7)] (by kernel_rfl) ?_
  refine RunU.done (by kernel_rfl) ?_
  refine kseq_n ?_
  refine RunC.seq ?_
  refine RunC.region ?_
  refine RunR.step (dst := some 21) (op := .load 65 (.tmp 3)) (by kernel_rfl) (Step.load_arr hU 3 b1 65 32 .u8 ks (by kernel_rfl) (by kernel_rfl) (by kernel_rfl) (by kernel_rfl) (by first | rfl | omega | (simp; done)) (by kernel_rfl) ?_)
  refine RunR.step (dst := some 9) (op := .alloc 65) (by kernel_rfl) (Step.alloc hU 32 32 (.agg #[.int .u8 0, .int .u8 0, .int .u8 0, .int .u8 0, .int .u8 0, .int .u8 0, .int .u8 0, .int .u8 0, .int .u8 0, .int .u8 0, .int .u8 0, .int .u8 0, .int .u8 0, .int .u8 0, .int .u8 0, .int .u8 0, .int .u8 0, .int .u8 0, .int .u8 0, .int .u8 0, .int .u8 0, .int .u8 0, .int .u8 0, .int .u8 0, .int .u8 0, .int .u8 0, .int .u8 0, .int .u8 0, .int .u8 0, .int .u8 0, .int .u8 0, .int .u8 0]) rfl (by kernel_rfl) (fun b13 => ?_))
  have hl14 : (List.replicate 32 (0 : Int)).length = 32 := List.length_replicate
  refine RunR.step (dst := none) (op := .store 65 (.tmp 9) (.tmp 21)) (by kernel_rfl) (Step.store_arr hU 0 b13 65 32 .u8 (List.replicate 32 (0 : Int)) ks (by kernel_rfl) (by kernel_rfl) (by kernel_rfl) (by kernel_rfl) (by first | rfl | omega | (simp; done)) (by first | rfl | omega | (simp; done)) ?_)
  refine RunR.done (by kernel_rfl) ?_
  refine kseq_n ?_
  refine RunC.seq ?_
  refine RunC.region ?_
  refine RunR.step (dst := some 22) (op := .load 65 (.tmp 4)) (by kernel_rfl) (Step.load_arr hU 3 b2 65 32 .u8 ps (by kernel_rfl) (by kernel_rfl) (by kernel_rfl) (by kernel_rfl) (by first | rfl | omega | (simp; done)) (by kernel_rfl) ?_)
  refine RunR.step (dst := some 10) (op := .alloc 65) (by kernel_rfl) (Step.alloc hU 32 32 (.agg #[.int .u8 0, .int .u8 0, .int .u8 0, .int .u8 0, .int .u8 0, .int .u8 0, .int .u8 0, .int .u8 0, .int .u8 0, .int .u8 0, .int .u8 0, .int .u8 0, .int .u8 0, .int .u8 0, .int .u8 0, .int .u8 0, .int .u8 0, .int .u8 0, .int .u8 0, .int .u8 0, .int .u8 0, .int .u8 0, .int .u8 0, .int .u8 0, .int .u8 0, .int .u8 0, .int .u8 0, .int .u8 0, .int .u8 0, .int .u8 0, .int .u8 0, .int .u8 0]) rfl (by kernel_rfl) (fun b15 => ?_))
  have hl16 : (List.replicate 32 (0 : Int)).length = 32 := List.length_replicate
  refine RunR.step (dst := none) (op := .store 65 (.tmp 10) (.tmp 22)) (by kernel_rfl) (Step.store_arr hU 0 b15 65 32 .u8 (List.replicate 32 (0 : Int)) ps (by kernel_rfl) (by kernel_rfl) (by kernel_rfl) (by kernel_rfl) (by first | rfl | omega | (simp; done)) (by first | rfl | omega | (simp; done)) ?_)
  refine RunR.done (by kernel_rfl) ?_
  refine kseq_n ?_
  refine RunC.seq ?_
  refine RunC.region ?_
  refine RunR.sil hU [] 1 1 [5, 6, 7, 8, 9, 10, 23] [(5, .pointer (some ⟨b3, 0, none⟩)), (6, .bool false), (7, .slice A94 zs6.length c95), (8, .int .i64 e7), (9, .pointer (some ⟨b13, 0, none⟩)), (10, .pointer (some ⟨b15, 0, none⟩)), (23, .pointer (some ⟨b13, 0, none⟩))] ((0 ≤ (0 : Int) ∧ (0 : Int) < ((32 : Nat) : Int)) ∧ True) rfl (by kernel_rfl) ⟨(by omega), trivial⟩ ?_
  refine RunR.step (dst := some 24) (op := .load 5 (.tmp 23)) (by kernel_rfl) (Step.load_blknum hU 1 b13 (0) 65 0 .u8 ks rfl (by kernel_rfl) (by kernel_rfl) (by kernel_rfl) (by omega) (by first | omega | (simp only [List.length_cons, List.length_nil]; omega)) ?_)
  have hb17 : 0 ≤ ks.getD 0 0 ∧ ks.getD 0 0 < 256 := hik.at_ _
  refine RunR.sil hU [] 1 3 [5, 6, 7, 8, 9, 10, 24, 25] [(5, .pointer (some ⟨b3, 0, none⟩)), (6, .bool false), (7, .slice A94 zs6.length c95), (8, .int .i64 e7), (9, .pointer (some ⟨b13, 0, none⟩)), (10, .pointer (some ⟨b15, 0, none⟩)), (24, .int .u8 (ks.getD 0 0)), (25, .pointer (some ⟨b3, 0, none⟩))] ((0 ≤ (0 : Int) ∧ (0 : Int) < ((3 : Nat) : Int)) ∧ True) rfl (by kernel_rfl) ⟨(by omega), trivial⟩ ?_
  refine RunR.step (dst := some 26) (op := .load 5 (.tmp 25)) (by kernel_rfl) (Step.load_blk hU 3 b3 (0) 66 [.int .u8 v0, .int .u8 v1, .int .u8 v2] (.int .u8 v0) (by kernel_rfl) (by kernel_rfl) (by kernel_rfl) (by kernel_rfl) ?_)
  refine RunR.sil hU [4] 3 7 [5, 6, 7, 8, 9, 10, 28, 29] [(5, .pointer (some ⟨b3, 0, none⟩)), (6, .bool false), (7, .slice A94 zs6.length c95), (8, .int .i64 e7), (9, .pointer (some ⟨b13, 0, none⟩)), (10, .pointer (some ⟨b15, 0, none⟩)), (28, .int .u8 (bits2 .xor .u8 (ks.getD 0 0) (v0 % (8 : Int)))), (29, .pointer (some ⟨b13, 0, none⟩))] ((0 ≤ v0 ∧ 0 < (8 : Int)) ∧ (True) ∧ (0 ≤ (0 : Int) ∧ (0 : Int) < ((32 : Nat) : Int)) ∧ True) rfl (by kernel_rfl) ⟨(by omega), trivial, (by omega), trivial⟩ ?_
  refine RunR.step (dst := none) (op := .store 5 (.tmp 29) (.tmp 28)) (by kernel_rfl) (Step.store_blknum hU 1 b13 (0) 65 0 .u8 ks (bits2 .xor .u8 (ks.getD 0 0) (v0 % (8 : Int))) (by kernel_rfl) (by kernel_rfl) (by kernel_rfl) rfl (by omega) (by first | omega | (simp only [List.length_cons, List.length_nil]; omega)) ?_)
  have hl18 : (ks.set 0 (bits2 .xor .u8 (ks.getD 0 0) (v0 % (8 : Int)))).length = ks.length := List.length_set
  refine RunR.done (by kernel_rfl) ?_
  refine kseq_n ?_
  refine RunC.seq ?_
  refine RunC.region ?_
  refine RunR.sil hU [] 1 1 [5, 6, 7, 8, 9, 10, 30] [(5, .pointer (some ⟨b3, 0, none⟩)), (6, .bool false), (7, .slice A94 zs6.length c95), (8, .int .i64 e7), (9, .pointer (some ⟨b13, 0, none⟩)), (10, .pointer (some ⟨b15, 0, none⟩)), (30, .pointer (some ⟨b13, 31, none⟩))] ((0 ≤ (31 : Int) ∧ (31 : Int) < ((32 : Nat) : Int)) ∧ True) rfl (by kernel_rfl) ⟨(by omega), trivial⟩ ?_
  refine RunR.step (dst := some 31) (op := .load 5 (.tmp 30)) (by kernel_rfl) (Step.load_blknum hU 0 b13 (31) 65 31 .u8 (ks.set 0 (bits2 .xor .u8 (ks.getD 0 0) (v0 % (8 : Int)))) rfl (by kernel_rfl) (by kernel_rfl) (by kernel_rfl) (by omega) (by first | omega | (simp only [List.length_cons, List.length_nil]; omega)) ?_)
  have hr19 : In .u8 (ks.set 0 (bits2 .xor .u8 (ks.getD 0 0) (v0 % (8 : Int)))) := by exact In.set (by first | exact hik | exact In.set hik _ (fits_bits2 _ _ _ _)) _ (fits_bits2 _ _ _ _)
  have hb20 : 0 ≤ (ks.set 0 (bits2 .xor .u8 (ks.getD 0 0) (v0 % (8 : Int)))).getD 31 0 ∧ (ks.set 0 (bits2 .xor .u8 (ks.getD 0 0) (v0 % (8 : Int)))).getD 31 0 < 256 := hr19.at_ _
  refine RunR.sil hU [] 1 3 [5, 6, 7, 8, 9, 10, 31, 32] [(5, .pointer (some ⟨b3, 0, none⟩)), (6, .bool false), (7, .slice A94 zs6.length c95), (8, .int .i64 e7), (9, .pointer (some ⟨b13, 0, none⟩)), (10, .pointer (some ⟨b15, 0, none⟩)), (31, .int .u8 ((ks.set 0 (bits2 .xor .u8 (ks.getD 0 0) (v0 % (8 : Int)))).getD 31 0)), (32, .pointer (some ⟨b3, 1, none⟩))] ((0 ≤ (1 : Int) ∧ (1 : Int) < ((3 : Nat) : Int)) ∧ True) rfl (by kernel_rfl) ⟨(by omega), trivial⟩ ?_
  refine RunR.step (dst := some 33) (op := .load 5 (.tmp 32)) (by kernel_rfl) (Step.load_blk hU 3 b3 (1) 66 [.int .u8 v0, .int .u8 v1, .int .u8 v2] (.int .u8 v1) (by kernel_rfl) (by kernel_rfl) (by kernel_rfl) (by kernel_rfl) ?_)
  refine RunR.sil hU [4, 5] 4 8 [5, 6, 7, 8, 9, 10, 36, 37] [(5, .pointer (some ⟨b3, 0, none⟩)), (6, .bool false), (7, .slice A94 zs6.length c95), (8, .int .i64 e7), (9, .pointer (some ⟨b13, 0, none⟩)), (10, .pointer (some ⟨b15, 0, none⟩)), (36, .int .u8 (bits2 .xor .u8 ((ks.set 0 (bits2 .xor .u8 (ks.getD 0 0) (v0 % (8 : Int)))).getD 31 0) ((v1 / (64 : Int)) * 64))), (37, .pointer (some ⟨b13, 31, none⟩))] ((0 ≤ v1 ∧ 0 < (64 : Int) ∧ 0 ≤ (v1 / (64 : Int)) ∧ (v1 / (64 : Int)) < 256) ∧ (0 ≤ ((v1 / (64 : Int)) * 64) ∧ ((v1 / (64 : Int)) * 64) < 256) ∧ (True) ∧ (0 ≤ (31 : Int) ∧ (31 : Int) < ((32 : Nat) : Int)) ∧ True) rfl (by kernel_rfl) ⟨(by omega), (by omega), trivial, (by omega), trivial⟩ ?_
  refine RunR.step (dst := none) (op := .store 5 (.tmp 37) (.tmp 36)) (by kernel_rfl) (Step.store_blknum hU 0 b13 (31) 65 31 .u8 (ks.set 0 (bits2 .xor .u8 (ks.getD 0 0) (v0 % (8 : Int)))) (bits2 .xor .u8 ((ks.set 0 (bits2 .xor .u8 (ks.getD 0 0) (v0 % (8 : Int)))).getD 31 0) ((v1 / (64 : Int)) * 64)) (by kernel_rfl) (by kernel_rfl) (by kernel_rfl) rfl (by omega) (by first | omega | (simp only [List.length_cons, List.length_nil]; omega)) ?_)
  have hl21 : ((ks.set 0 (bits2 .xor .u8 (ks.getD 0 0) (v0 % (8 : Int)))).set 31 (bits2 .xor .u8 ((ks.set 0 (bits2 .xor .u8 (ks.getD 0 0) (v0 % (8 : Int)))).getD 31 0) ((v1 / (64 : Int)) * 64))).length = (ks.set 0 (bits2 .xor .u8 (ks.getD 0 0) (v0 % (8 : Int)))).length := List.length_set
  refine RunR.done (by kernel_rfl) ?_
  refine kseq_n ?_
  refine RunC.seq ?_
  refine RunC.region ?_
  refine RunR.sil hU [] 1 1 [5, 6, 7, 8, 9, 10, 38] [(5, .pointer (some ⟨b3, 0, none⟩)), (6, .bool false), (7, .slice A94 zs6.length c95), (8, .int .i64 e7), (9, .pointer (some ⟨b13, 0, none⟩)), (10, .pointer (some ⟨b15, 0, none⟩)), (38, .pointer (some ⟨b15, 31, none⟩))] ((0 ≤ (31 : Int) ∧ (31 : Int) < ((32 : Nat) : Int)) ∧ True) rfl (by kernel_rfl) ⟨(by omega), trivial⟩ ?_
  refine RunR.step (dst := some 39) (op := .load 5 (.tmp 38)) (by kernel_rfl) (Step.load_blknum hU 1 b15 (31) 65 31 .u8 ps rfl (by kernel_rfl) (by kernel_rfl) (by kernel_rfl) (by omega) (by first | omega | (simp only [List.length_cons, List.length_nil]; omega)) ?_)
  have hb22 : 0 ≤ ps.getD 31 0 ∧ ps.getD 31 0 < 256 := hip.at_ _
  refine RunR.sil hU [] 1 3 [6, 7, 8, 9, 10, 39, 40] [(6, .bool false), (7, .slice A94 zs6.length c95), (8, .int .i64 e7), (9, .pointer (some ⟨b13, 0, none⟩)), (10, .pointer (some ⟨b15, 0, none⟩)), (39, .int .u8 (ps.getD 31 0)), (40, .pointer (some ⟨b3, 2, none⟩))] ((0 ≤ (2 : Int) ∧ (2 : Int) < ((3 : Nat) : Int)) ∧ True) rfl (by kernel_rfl) ⟨(by omega), trivial⟩ ?_
  refine RunR.step (dst := some 41) (op := .load 5 (.tmp 40)) (by kernel_rfl) (Step.load_blk hU 3 b3 (2) 66 [.int .u8 v0, .int .u8 v1, .int .u8 v2] (.int .u8 v2) (by kernel_rfl) (by kernel_rfl) (by kernel_rfl) (by kernel_rfl) ?_)
  refine RunR.sil hU [4, 5] 4 8 [6, 7, 8, 9, 10, 44, 45] [(6, .bool false), (7, .slice A94 zs6.length c95), (8, .int .i64 e7), (9, .pointer (some ⟨b13, 0, none⟩)), (10, .pointer (some ⟨b15, 0, none⟩)), (44, .int .u8 (bits2 .xor .u8 (ps.getD 31 0) ((v2 / (128 : Int)) * 128))), (45, .pointer (some ⟨b15, 31, none⟩))] ((0 ≤ v2 ∧ 0 < (128 : Int) ∧ 0 ≤ (v2 / (128 : Int)) ∧ (v2 / (128 : Int)) < 256) ∧ (0 ≤ ((v2 / (128 : Int)) * 128) ∧ ((v2 / (128 : Int)) * 128) < 256) ∧ (True) ∧ (0 ≤ (31 : Int) ∧ (31 : Int) < ((32 : Nat) : Int)) ∧ True) rfl (by kernel_rfl) ⟨(by omega), (by omega), trivial, (by omega), trivial⟩ ?_
  refine RunR.step (dst := none) (op := .store 5 (.tmp 45) (.tmp 44)) (by kernel_rfl) (Step.store_blknum hU 1 b15 (31) 65 31 .u8 ps (bits2 .xor .u8 (ps.getD 31 0) ((v2 / (128 : Int)) * 128)) (by kernel_rfl) (by kernel_rfl) (by kernel_rfl) rfl (by omega) (by first | omega | (simp only [List.length_cons, List.length_nil]; omega)) ?_)
  have hl23 : (ps.set 31 (bits2 .xor .u8 (ps.getD 31 0) ((v2 / (128 : Int)) * 128))).length = ps.length := List.length_set
  refine RunR.done (by kernel_rfl) ?_
  refine kseq_n ?_
  refine RunC.seq ?_
  refine RunC.regionU hU 8 [] [] [7] (bm 8 0) (by kernel_rfl) (by kernel_rfl) (by kernel_rfl) ?_
  refine RunU.sil hU false 0 (bm 8 1) 47 (.slice (some ⟨b13, 0, none⟩) 32 32) (True) (by kernel_rfl) trivial (by kernel_rfl) (by kernel_rfl) (fun _ _ _ h => h) ?_
  refine RunU.sil hU false 1 (bm 8 3) 48 (.slice (some ⟨b15, 0, none⟩) 32 32) (True) (by kernel_rfl) trivial (by kernel_rfl) (by kernel_rfl) (fun _ _ _ h => h) ?_
  refine RunU.one (dst := some 49) (op := .call { callee := .value (.func 32), args := #[.tmp 47, .tmp 48], argTypes := #[23, 23] }) 2 (bm 8 7) [] (by kernel_rfl) (by kernel_rfl) (Step.call 32 [.slice (some ⟨b13, 0, none⟩) 32 32, .slice (some ⟨b15, 0, none⟩) 32 32] (by kernel_rfl) (by kernel_rfl) [] [vw (some ⟨b13, 0, none⟩) (nums .u8 ((ks.set 0 (bits2 .xor .u8 (ks.getD 0 0) (v0 % (8 : Int)))).set 31 (bits2 .xor .u8 ((ks.set 0 (bits2 .xor .u8 (ks.getD 0 0) (v0 % (8 : Int)))).getD 31 0) ((v1 / (64 : Int)) * 64)))), vw (some ⟨b15, 0, none⟩) (nums .u8 (ps.set 31 (bits2 .xor .u8 (ps.getD 31 0) ((v2 / (128 : Int)) * 128))))] [blk b15 65 (nums .u8 (ps.set 31 (bits2 .xor .u8 (ps.getD 31 0) ((v2 / (128 : Int)) * 128)))), blk b13 65 (nums .u8 ((ks.set 0 (bits2 .xor .u8 (ks.getD 0 0) (v0 % (8 : Int)))).set 31 (bits2 .xor .u8 ((ks.set 0 (bits2 .xor .u8 (ks.getD 0 0) (v0 % (8 : Int)))).getD 31 0) ((v1 / (64 : Int)) * 64)))), row 5 1 (.slice A94 zs6.length c95) zs6.length (nums .u8 zs6), blk b3 66 [.int .u8 v0, .int .u8 v1, .int .u8 v2], blk b2 65 (nums .u8 ps), blk b1 65 (nums .u8 ks)] (k_Shared_spec (some ⟨b13, 0, none⟩) 32 ((ks.set 0 (bits2 .xor .u8 (ks.getD 0 0) (v0 % (8 : Int)))).set 31 (bits2 .xor .u8 ((ks.set 0 (bits2 .xor .u8 (ks.getD 0 0) (v0 % (8 : Int)))).getD 31 0) ((v1 / (64 : Int)) * 64))) (some ⟨b15, 0, none⟩) 32 (ps.set 31 (bits2 .xor .u8 (ps.getD 31 0) ((v2 / (128 : Int)) * 128))) 32 32 (by (repeat first | assumption | (simp only [fits]; omega) | with_reducible first | exact fits_wrap _ _ | exact fits_bits2 _ _ _ _ | exact In.nil _ | exact In.sb _ | exact In.replicate _ _ | apply In.append | apply In.cons | apply In.set | apply In.take | apply In.drop | apply In.rev)) (by first | assumption | omega | (simp only [List.length_append, List.length_cons, List.length_nil, List.length_set, List.length_replicate, List.length_take, List.length_drop]; omega) | (simp only [fits] at *; omega) | (simp only [List.length_append, List.length_cons, List.length_nil, List.length_set, List.length_replicate, List.length_take, List.length_drop] at *; omega) | (simp; done) | decide) (by first | assumption | omega | (simp only [List.length_append, List.length_cons, List.length_nil, List.length_set, List.length_replicate, List.length_take, List.length_drop]; omega) | (simp only [fits] at *; omega) | (simp only [List.length_append, List.length_cons, List.length_nil, List.length_set, List.length_replicate, List.length_take, List.length_drop] at *; omega) | (simp; done) | decide) (by (repeat first | assumption | (simp only [fits]; omega) | with_reducible first | exact fits_wrap _ _ | exact fits_bits2 _ _ _ _ | exact In.nil _ | exact In.sb _ | exact In.replicate _ _ | apply In.append | apply In.cons | apply In.set | apply In.take | apply In.drop | apply In.rev)) (by first | assumption | omega | (simp only [List.length_append, List.length_cons, List.length_nil, List.length_set, List.length_replicate, List.length_take, List.length_drop]; omega) | (simp only [fits] at *; omega) | (simp only [List.length_append, List.length_cons, List.length_nil, List.length_set, List.length_replicate, List.length_take, List.length_drop] at *; omega) | (simp; done) | decide) (by first | assumption | omega | (simp only [List.length_append, List.length_cons, List.length_nil, List.length_set, List.length_replicate, List.length_take, List.length_drop]; omega) | (simp only [fits] at *; omega) | (simp only [List.length_append, List.length_cons, List.length_nil, List.length_set, List.length_replicate, List.length_take, List.length_drop] at *; omega) | (simp; done) | decide) (by first | rfl | assumption | omega | (simp only [List.length_append, List.length_cons, List.length_nil, List.length_set, List.length_replicate, List.length_take, List.length_drop]; omega) | (simp; done)) (by first | rfl | assumption | omega | (simp only [List.length_append, List.length_cons, List.length_nil, List.length_set, List.length_replicate, List.length_take, List.length_drop]; omega) | (simp; done))) [] (by kernel_rfl) (((Lend.nil _).tells 0 (blk b15 65 (nums .u8 (ps.set 31 (bits2 .xor .u8 (ps.getD 31 0) ((v2 / (128 : Int)) * 128))))) (some ⟨b15, 0, none⟩) (nums .u8 (ps.set 31 (bits2 .xor .u8 (ps.getD 31 0) ((v2 / (128 : Int)) * 128)))) (by kernel_rfl) (tells_blk _ _ 0 _ _ (by simp))).tells 1 (blk b13 65 (nums .u8 ((ks.set 0 (bits2 .xor .u8 (ks.getD 0 0) (v0 % (8 : Int)))).set 31 (bits2 .xor .u8 ((ks.set 0 (bits2 .xor .u8 (ks.getD 0 0) (v0 % (8 : Int)))).getD 31 0) ((v1 / (64 : Int)) * 64))))) (some ⟨b13, 0, none⟩) (nums .u8 ((ks.set 0 (bits2 .xor .u8 (ks.getD 0 0) (v0 % (8 : Int)))).set 31 (bits2 .xor .u8 ((ks.set 0 (bits2 .xor .u8 (ks.getD 0 0) (v0 % (8 : Int)))).getD 31 0) ((v1 / (64 : Int)) * 64)))) (by kernel_rfl) (tells_blk _ _ 0 _ _ (by simp))) ?_)
  rintro _ _ ⟨A924, c925, zs26, e27, rfl, rfl, hp28, hp29, hp30, hp31, hp32⟩
  refine ⟨.inl (by kernel_rfl), ?_⟩
  refine RunU.sil hU false 3 (bm 8 15) 46 (.tuple #[.slice A924 zs26.length c925, .int .i64 e27]) (True) (by kernel_rfl) trivial (by kernel_rfl) (by kernel_rfl) (fun _ _ _ h => h) ?_
  refine RunU.sil hU false 4 (bm 8 31) 50 (.slice A924 zs26.length c925) (True) (by kernel_rfl) trivial (by kernel_rfl) (by kernel_rfl) (fun _ _ _ h => h) ?_
  refine RunU.sil hU false 5 (bm 8 63) 51 (.int .i64 e27) (True) (by kernel_rfl) trivial (by kernel_rfl) (by kernel_rfl) (fun _ _ _ h => h) ?_
  refine RunU.sil hU false 6 (bm 8 127) 11 (.slice A924 zs26.length c925) (True) (by kernel_rfl) trivial (by kernel_rfl) (by kernel_rfl) (fun _ _ _ h => h) ?_
  refine RunU.sil hU false 7 (bm 8 255) 12 (.int .i64 e27) (True) (by kernel_rfl) trivial (by kernel_rfl) (by kernel_rfl) (fun _ _ _ h => h) ?_
  refine RunU.env [6, 7, 8, 11, 12] [(6, .bool false), (7, .slice A94 zs6.length c95), (8, .int .i64 e7), (11, .slice A924 zs26.length c925), (12, .int .i64 e27)] (by kernel_rfl) ?_
  refine RunU.done (by kernel_rfl) ?_
  refine kseq_n ?_
  refine RunC.seq ?_
  refine RunC.region ?_
  refine RunR.sil hU [] 4 4 [6, 7, 8, 11, 55] [(6, .bool false), (7, .slice A94 zs6.length c95), (8, .int .i64 e7), (11, .slice A924 zs26.length c925), (55, .bool (decide (e7 = e27)))] ((True) ∧ (True) ∧ (True) ∧ (True) ∧ True) rfl (by kernel_rfl) ⟨trivial, trivial, trivial, trivial, trivial⟩ ?_
  refine RunR.env [6, 7, 8, 11, 55] [(6, .bool false), (7, .slice A94 zs6.length c95), (8, .int .i64 e7), (11, .slice A924 zs26.length c925), (55, .bool (decide (e7 = e27)))] (by kernel_rfl) ?_
  have hk33 : (e7 = e27) := by exact (share_same hp8 (share_loose hp28 (loose_k hik hlk (by omega) (by omega)) (loose_p hip hlp (by omega)) (by simp only [List.length_set]) (by simp only [List.length_set]))).1
  refine RunR.enveq [(6, .bool false), (7, .slice A94 zs6.length c95), (8, .int .i64 e7), (11, .slice A924 zs26.length c925), (55, .bool true)] (by rw [decide_eq_true hk33]; try rfl) ?_
  refine RunR.sil hU [] 2 6 [6, 8, 55, 56, 57] [(6, .bool false), (8, .int .i64 e7), (55, .bool true), (56, .slice A94 zs6.length c95), (57, .slice A924 zs26.length c925)] ((True) ∧ (True) ∧ True) rfl (by kernel_rfl) ⟨trivial, trivial, trivial⟩ ?_
  refine RunR.step (dst := some 58) (op := .call { callee := .value (.func 34), args := #[.tmp 56, .tmp 57], argTypes := #[23, 23] }) (by kernel_rfl) (Step.call 34 [.slice A94 zs6.length c95, .slice A924 zs26.length c925] (by kernel_rfl) (by kernel_rfl) [] [vw A94 (nums .u8 zs6), vw A924 (nums .u8 zs26)] [row 5 1 (.slice A924 zs26.length c925) zs26.length (nums .u8 zs26), blk b15 65 (nums .u8 (ps.set 31 (bits2 .xor .u8 (ps.getD 31 0) ((v2 / (128 : Int)) * 128)))), blk b13 65 (nums .u8 ((ks.set 0 (bits2 .xor .u8 (ks.getD 0 0) (v0 % (8 : Int)))).set 31 (bits2 .xor .u8 ((ks.set 0 (bits2 .xor .u8 (ks.getD 0 0) (v0 % (8 : Int)))).getD 31 0) ((v1 / (64 : Int)) * 64)))), row 5 1 (.slice A94 zs6.length c95) zs6.length (nums .u8 zs6), blk b3 66 [.int .u8 v0, .int .u8 v1, .int .u8 v2], blk b2 65 (nums .u8 ps), blk b1 65 (nums .u8 ks)] (r_Equal_spec A94 c95 zs6 A924 c925 zs26 zs6.length zs26.length hp10 (by first | assumption | omega | (simp only [List.length_append, List.length_cons, List.length_nil, List.length_set, List.length_replicate, List.length_take, List.length_drop]; omega) | (simp only [fits] at *; omega) | (simp only [List.length_append, List.length_cons, List.length_nil, List.length_set, List.length_replicate, List.length_take, List.length_drop] at *; omega) | (simp; done) | decide) hp30 (by first | assumption | omega | (simp only [List.length_append, List.length_cons, List.length_nil, List.length_set, List.length_replicate, List.length_take, List.length_drop]; omega) | (simp only [fits] at *; omega) | (simp only [List.length_append, List.length_cons, List.length_nil, List.length_set, List.length_replicate, List.length_take, List.length_drop] at *; omega) | (simp; done) | decide) (by first | rfl | assumption | omega | (simp only [List.length_append, List.length_cons, List.length_nil, List.length_set, List.length_replicate, List.length_take, List.length_drop]; omega) | (simp; done)) (by first | rfl | assumption | omega | (simp only [List.length_append, List.length_cons, List.length_nil, List.length_set, List.length_replicate, List.length_take, List.length_drop]; omega) | (simp; done))) [] (by kernel_rfl) (((Lend.nil _).tells 0 (row 5 1 (.slice A924 zs26.length c925) zs26.length (nums .u8 zs26)) A924 (nums .u8 zs26) (by kernel_rfl) (tells_row _ _ _ _ _ _)).tells 3 (row 5 1 (.slice A94 zs6.length c95) zs6.length (nums .u8 zs6)) A94 (nums .u8 zs6) (by kernel_rfl) (tells_row _ _ _ _ _ _)) ?_)
  rintro _ _ ⟨rfl, rfl⟩
  refine RunR.sil hU [] 2 9 [6, 8, 60] [(6, .bool false), (8, .int .i64 e7), (60, .bool (decide (zs6 = zs26)))] ((True) ∧ (True) ∧ True) rfl (by kernel_rfl) ⟨trivial, trivial, trivial⟩ ?_
  refine RunR.env [6, 8, 60] [(6, .bool false), (8, .int .i64 e7), (60, .bool (decide (zs6 = zs26)))] (by kernel_rfl) ?_
  have hk34 : (zs6 = zs26) := by exact (share_same hp8 (share_loose hp28 (loose_k hik hlk (by omega) (by omega)) (loose_p hip hlp (by omega)) (by simp only [List.length_set]) (by simp only [List.length_set]))).2
  refine RunR.enveq [(6, .bool false), (8, .int .i64 e7), (60, .bool true)] (by rw [decide_eq_true hk34]; try rfl) ?_
  refine RunR.sil hU [] 3 12 [6, 8, 60, 63] [(6, .bool false), (8, .int .i64 e7), (60, .bool true), (63, .bool (decide (e7 = 0)))] ((True) ∧ (True) ∧ (True) ∧ True) rfl (by kernel_rfl) ⟨trivial, trivial, trivial, trivial⟩ ?_
  refine RunR.env [6, 8, 60, 63] [(6, .bool false), (8, .int .i64 e7), (60, .bool true), (63, .bool (decide (e7 = 0)))] (by kernel_rfl) ?_
  by_cases h35 : e7 = 0
  · skip
    refine RunR.enveq [(6, .bool false), (8, .int .i64 e7), (60, .bool true), (63, .bool true)] (by rw [decide_eq_true h35]; try rfl) ?_
    refine RunR.sil hU [] 5 17 [6] [(6, .bool true)] ((True) ∧ (True) ∧ (True) ∧ True) rfl (by kernel_rfl) ⟨trivial, trivial, trivial, trivial⟩ ?_
    refine RunR.done (by kernel_rfl) ?_
    refine kseq_n ?_
    refine RunC.ret ?_
    refine kret_r [.bool true] [] [] ⟨rfl, trivial⟩ (by kernel_rfl) rfl ⟨rfl, rfl⟩
  · skip
    refine RunR.enveq [(6, .bool false), (8, .int .i64 e7), (60, .bool true), (63, .bool false)] (by rw [decide_eq_false h35]; try rfl) ?_
    refine RunR.sil hU [] 5 17 [6] [(6, .bool (decide (e7 = 10)))] ((True) ∧ (True) ∧ (True) ∧ (True) ∧ (True) ∧ True) rfl (by kernel_rfl) ⟨trivial, trivial, trivial, trivial, trivial, trivial⟩ ?_
    refine RunR.env [6] [(6, .bool (decide (e7 = 10)))] (by kernel_rfl) ?_
    have hk36 : (e7 = 10) := by exact (share_code hp8 hlk hlp).resolve_left (by assumption)
    refine RunR.enveq [(6, .bool true)] (by rw [decide_eq_true hk36]; try rfl) ?_
    refine RunR.done (by kernel_rfl) ?_
    refine kseq_n ?_
    refine RunC.ret ?_
    refine kret_r [.bool true] [] [] ⟨rfl, trivial⟩ (by kernel_rfl) rfl ⟨rfl, rfl⟩
end Go.Proofs.Ytaaplakahkgclaa.LCurveLoose
