/- The law CurveClamped returns true whatever it is handed: its walk, on the contracts of what it calls. -/
import Derived.Test.YtaaplakahkgclaaKPure
import Derived.Test.YtaaplakahkgclaaProg
import Derived.Test.YtaaplakahkgclaaX1
import Derived.Test.YtaaplakahkgclaaX2
import Derived.Test.YtaaplakahkgclaaX3
import Derived.Test.YtaaplakahkgclaaX4
import Derived.Test.YtaaplakahkgclaaX5
import Derived.Test.YtaaplakahkgclaaX6
import Derived.Test.YtaaplakahkgclaaX7
import Derived.Test.YtaaplakahkgclaaX8
import Derived.Test.YtaaplakahkgclaaX9
import Derived.Test.YtaaplakahkgclaaY1
import Derived.Test.YtaaplakahkgclaaZ1
import Derived.Test.YtaaplakahkgclaaZ3
import Derived.Test.YtaaplakahkgclaaZ4
import Derived.Test.YtaaplakahkgclaaZ5
import Derived.Test.YtaaplakahkgclaaZ7
import Derived.Test.YtaaplakahkgclaaZ8
namespace Go.Proofs.Ytaaplakahkgclaa.LCurveClamped
open Go Go.Proofs.Ytaaplakahkgclaa.SL Go.Proofs.Ytaaplakahkgclaa.SL.W Go.Proofs.Ytaaplakahkgclaa.SL.F Go.Proofs.Ytaaplakahkgclaa.SL.N Go.Proofs.Ytaaplakahkgclaa.SL.E Go.Proofs.Ytaaplakahkgclaa.SL.K Go.Proofs.Ytaaplakahkgclaa.X1 Go.Proofs.Ytaaplakahkgclaa.X2 Go.Proofs.Ytaaplakahkgclaa.X3 Go.Proofs.Ytaaplakahkgclaa.X4 Go.Proofs.Ytaaplakahkgclaa.X5 Go.Proofs.Ytaaplakahkgclaa.X6 Go.Proofs.Ytaaplakahkgclaa.X7 Go.Proofs.Ytaaplakahkgclaa.X8 Go.Proofs.Ytaaplakahkgclaa.X9 Go.Proofs.Ytaaplakahkgclaa.Y1 Go.Proofs.Ytaaplakahkgclaa.Z1 Go.Proofs.Ytaaplakahkgclaa.Z3 Go.Proofs.Ytaaplakahkgclaa.Z4 Go.Proofs.Ytaaplakahkgclaa.Z5 Go.Proofs.Ytaaplakahkgclaa.Z7 Go.Proofs.Ytaaplakahkgclaa.Z8
set_option linter.unusedVariables false
set_option linter.unusedSimpArgs false
set_option maxRecDepth 100000
set_option maxHeartbeats 40000000
def U : Tab where
  und := [(3, .int .i64), (5, .int .u8), (33, .int .i64), (65, .array 32 5)]
  fld := []
  sz := [(3, 1), (5, 1), (33, 1), (65, 32)]
  ti := [(3, (1, 8, .int .i64 0)), (5, (1, 1, .int .u8 0)), (33, (1, 8, .int .i64 0)), (65, (32, 32, .agg #[.int .u8 0, .int .u8 0, .int .u8 0, .int .u8 0, .int .u8 0, .int .u8 0, .int .u8 0, .int .u8 0, .int .u8 0, .int .u8 0, .int .u8 0, .int .u8 0, .int .u8 0, .int .u8 0, .int .u8 0, .int .u8 0, .int .u8 0, .int .u8 0, .int .u8 0, .int .u8 0, .int .u8 0, .int .u8 0, .int .u8 0, .int .u8 0, .int .u8 0, .int .u8 0, .int .u8 0, .int .u8 0, .int .u8 0, .int .u8 0, .int .u8 0, .int .u8 0]))]
  bld := []

theorem hU : U.OK Try.prog where
  und := by
    intro p hp
    simp only [U, List.mem_cons, List.not_mem_nil, or_false] at hp
    rcases hp with rfl | rfl | rfl | rfl
    · exact Try.underlying3
    · exact Try.underlying5
    · exact Try.underlying33
    · exact Try.underlying65
  fld := by
    intro p hp; cases hp
  sz := by
    intro p hp
    simp only [U, List.mem_cons, List.not_mem_nil, or_false] at hp
    rcases hp with rfl | rfl | rfl | rfl
    · exact ⟨Try.prog.types[3]!, by kernel_rfl, by kernel_rfl⟩
    · exact ⟨Try.prog.types[5]!, by kernel_rfl, by kernel_rfl⟩
    · exact ⟨Try.prog.types[33]!, by kernel_rfl, by kernel_rfl⟩
    · exact ⟨Try.prog.types[65]!, by kernel_rfl, by kernel_rfl⟩
  ti := by
    intro p hp
    simp only [U, List.mem_cons, List.not_mem_nil, or_false] at hp
    rcases hp with rfl | rfl | rfl | rfl
    · exact ⟨Try.prog.types[3]!, by kernel_rfl, by kernel_rfl, by kernel_rfl, by kernel_rfl⟩
    · exact ⟨Try.prog.types[5]!, by kernel_rfl, by kernel_rfl, by kernel_rfl, by kernel_rfl⟩
    · exact ⟨Try.prog.types[33]!, by kernel_rfl, by kernel_rfl, by kernel_rfl, by kernel_rfl⟩
    · exact ⟨Try.prog.types[65]!, by kernel_rfl, by kernel_rfl, by kernel_rfl, by kernel_rfl⟩
  bld := by
    intro p hp; cases hp
  mixed := by kernel_rfl

theorem l8_CurveClamped_spec (ks : List Int) (ps : List Int) (hik : In .u8 ks) (hlk : ks.length = 32) (hip : In .u8 ps) (hlp : ps.length = 32) :
    CallsS Try.prog 10 [.agg (nums .u8 ks).toArray, .agg (nums .u8 ps).toArray] [] (fun r D => r = .bool true ∧ D = []) := by
  refine CallsS.enter hU Try.f10 _ [.tmp 4] 84 Try.func10 rfl (by decide) rfl rfl (by kernel_rfl) fun w0 W => ?_
  refine RunC.seq ?_
  refine RunC.region ?_
  refine RunR.step (dst := some 2) (op := .box 65 (.tmp 0)) (by kernel_rfl) (Step.box (.agg (nums .u8 ks).toArray) (by kernel_rfl) (by kernel_rfl) (fun b1 => ?_))
  refine RunR.step (dst := some 3) (op := .box 65 (.tmp 1)) (by kernel_rfl) (Step.box (.agg (nums .u8 ps).toArray) (by kernel_rfl) (by kernel_rfl) (fun b2 => ?_))
  refine RunR.sil hU [] 1 3 [2, 3, 4] [(2, .pointer (some ⟨b1, 0, none⟩)), (3, .pointer (some ⟨b2, 0, none⟩)), (4, .bool false)] ((True) ∧ True) rfl (by kernel_rfl) ⟨trivial, trivial⟩ ?_
  refine RunR.done (by kernel_rfl) ?_
  refine kseq_n ?_
  refine RunC.seq ?_
  refine RunC.seq ?_
  refine RunC.region ?_
  refine RunR.step (dst := some 17) (op := .call { callee := .value (.func 31), args := #[], argTypes := #[] }) (by kernel_rfl) (Step.call 31 [] (by kernel_rfl) (by kernel_rfl) [] [] [blk b2 65 (nums .u8 ps), blk b1 65 (nums .u8 ks)] (l8_awake_spec) [] (by kernel_rfl) (Lend.nil _) ?_)
  rintro _ _ ⟨rfl, rfl⟩
  refine RunR.sil hU [] 1 2 [2, 3, 4, 18] [(2, .pointer (some ⟨b1, 0, none⟩)), (3, .pointer (some ⟨b2, 0, none⟩)), (4, .bool false), (18, .bool false)] ((True) ∧ True) rfl (by kernel_rfl) ⟨trivial, trivial⟩ ?_
  refine RunR.done (by kernel_rfl) ?_
  refine kseq_n ?_
  refine RunC.cond (b := false) (by kernel_rfl) (fun h => by cases h) (fun _ => ?_)
  refine RunC.skip ?_
  refine kseq_n ?_
  refine RunC.seq ?_
  refine RunC.region ?_
  refine RunR.sil hU [] 1 1 [2, 3, 4, 20] [(2, .pointer (some ⟨b1, 0, none⟩)), (3, .pointer (some ⟨b2, 0, none⟩)), (4, .bool false), (20, .slice (some ⟨b1, 0, none⟩) 32 32)] ((True) ∧ True) rfl (by kernel_rfl) ⟨trivial, trivial⟩ ?_
  refine RunR.step (dst := some 21) (op := .call { callee := .value (.func 37), args := #[.tmp 20], argTypes := #[23] }) (by kernel_rfl) (Step.call 37 [.slice (some ⟨b1, 0, none⟩) 32 32] (by kernel_rfl) (by kernel_rfl) [] [vw (some ⟨b1, 0, none⟩) (nums .u8 ks)] [blk b2 65 (nums .u8 ps), blk b1 65 (nums .u8 ks)] (k_Clamp_spec (some ⟨b1, 0, none⟩) 32 ks 32 hik (by first | assumption | omega | (simp only [List.length_append, List.length_cons, List.length_nil, List.length_set, List.length_replicate, List.length_take, List.length_drop]; omega) | (simp only [fits] at *; omega) | (simp only [List.length_append, List.length_cons, List.length_nil, List.length_set, List.length_replicate, List.length_take, List.length_drop] at *; omega) | (simp; done) | decide) (by first | assumption | omega | (simp only [List.length_append, List.length_cons, List.length_nil, List.length_set, List.length_replicate, List.length_take, List.length_drop]; omega) | (simp only [fits] at *; omega) | (simp only [List.length_append, List.length_cons, List.length_nil, List.length_set, List.length_replicate, List.length_take, List.length_drop] at *; omega) | (simp; done) | decide) (by first | rfl | assumption | omega | (simp only [List.length_append, List.length_cons, List.length_nil, List.length_set, List.length_replicate, List.length_take, List.length_drop]; omega) | (simp; done))) [] (by kernel_rfl) ((Lend.nil _).tells 1 (blk b1 65 (nums .u8 ks)) (some ⟨b1, 0, none⟩) (nums .u8 ks) (by kernel_rfl) (tells_blk _ _ 0 _ _ (by simp))) ?_)
  rintro _ _ ⟨A93, c94, zs5, e6, n97, rfl, rfl, hp8, hp9, hp10, hp11, hp12, hp13⟩
  refine RunR.sil hU [] 5 7 [2, 3, 4, 5, 6] [(2, .pointer (some ⟨b1, 0, none⟩)), (3, .pointer (some ⟨b2, 0, none⟩)), (4, .bool false), (5, .slice A93 n97 c94), (6, .int .i64 e6)] ((True) ∧ (True) ∧ (True) ∧ (True) ∧ (True) ∧ True) rfl (by kernel_rfl) ⟨trivial, trivial, trivial, trivial, trivial, trivial⟩ ?_
  refine RunR.done (by kernel_rfl) ?_
  refine kseq_n ?_
  refine RunC.seq ?_
  refine RunC.region ?_
  refine RunR.sil hU [] 1 1 [2, 3, 4, 5, 6, 25] [(2, .pointer (some ⟨b1, 0, none⟩)), (3, .pointer (some ⟨b2, 0, none⟩)), (4, .bool false), (5, .slice A93 n97 c94), (6, .int .i64 e6), (25, .slice A93 n97 c94)] ((True) ∧ True) rfl (by kernel_rfl) ⟨trivial, trivial⟩ ?_
  refine RunR.step (dst := some 26) (op := .call { callee := .value (.func 37), args := #[.tmp 25], argTypes := #[23] }) (by kernel_rfl) (Step.call 37 [.slice A93 n97 c94] (by kernel_rfl) (by kernel_rfl) [] [vw A93 (nums .u8 zs5)] [row 5 1 (.slice A93 n97 c94) n97 (nums .u8 zs5), blk b2 65 (nums .u8 ps), blk b1 65 (nums .u8 ks)] (k_Clamp_spec A93 c94 zs5 n97 hp11 (by first | assumption | omega | (simp only [List.length_append, List.length_cons, List.length_nil, List.length_set, List.length_replicate, List.length_take, List.length_drop]; omega) | (simp only [fits] at *; omega) | (simp only [List.length_append, List.length_cons, List.length_nil, List.length_set, List.length_replicate, List.length_take, List.length_drop] at *; omega) | (simp; done) | decide) (by first | assumption | omega | (simp only [List.length_append, List.length_cons, List.length_nil, List.length_set, List.length_replicate, List.length_take, List.length_drop]; omega) | (simp only [fits] at *; omega) | (simp only [List.length_append, List.length_cons, List.length_nil, List.length_set, List.length_replicate, List.length_take, List.length_drop] at *; omega) | (simp; done) | decide) (by first | rfl | assumption | omega | (simp only [List.length_append, List.length_cons, List.length_nil, List.length_set, List.length_replicate, List.length_take, List.length_drop]; omega) | (simp; done))) [] (by kernel_rfl) ((Lend.nil _).tells 0 (row 5 1 (.slice A93 n97 c94) n97 (nums .u8 zs5)) A93 (nums .u8 zs5) (by kernel_rfl) (tells_row _ _ _ _ _ _)) ?_)
  rintro _ _ ⟨A914, c915, zs16, e17, n918, rfl, rfl, hp19, hp20, hp21, hp22, hp23, hp24⟩
  refine RunR.sil hU [] 5 7 [2, 3, 4, 5, 6, 7, 8] [(2, .pointer (some ⟨b1, 0, none⟩)), (3, .pointer (some ⟨b2, 0, none⟩)), (4, .bool false), (5, .slice A93 n97 c94), (6, .int .i64 e6), (7, .slice A914 n918 c915), (8, .int .i64 e17)] ((True) ∧ (True) ∧ (True) ∧ (True) ∧ (True) ∧ True) rfl (by kernel_rfl) ⟨trivial, trivial, trivial, trivial, trivial, trivial⟩ ?_
  refine RunR.done (by kernel_rfl) ?_
  refine kseq_n ?_
  refine RunC.seq ?_
  refine RunC.seq ?_
  refine RunC.region ?_
  refine RunR.sil hU [] 3 3 [2, 3, 4, 5, 7, 8, 31] [(2, .pointer (some ⟨b1, 0, none⟩)), (3, .pointer (some ⟨b2, 0, none⟩)), (4, .bool false), (5, .slice A93 n97 c94), (7, .slice A914 n918 c915), (8, .int .i64 e17), (31, .bool (!decide (e6 = 0)))] ((True) ∧ (True) ∧ (True) ∧ True) rfl (by kernel_rfl) ⟨trivial, trivial, trivial, trivial⟩ ?_
  refine RunR.env [2, 3, 4, 5, 7, 8, 31] [(2, .pointer (some ⟨b1, 0, none⟩)), (3, .pointer (some ⟨b2, 0, none⟩)), (4, .bool false), (5, .slice A93 n97 c94), (7, .slice A914 n918 c915), (8, .int .i64 e17), (31, .bool (!decide (e6 = 0)))] (by kernel_rfl) ?_
  have hk25 : (e6 = 0) := by omega
  refine RunR.enveq [(2, .pointer (some ⟨b1, 0, none⟩)), (3, .pointer (some ⟨b2, 0, none⟩)), (4, .bool false), (5, .slice A93 n97 c94), (7, .slice A914 n918 c915), (8, .int .i64 e17), (31, .bool false)] (by rw [decide_eq_true hk25]; try rfl) ?_
  refine RunR.sil hU [] 4 7 [2, 3, 4, 5, 7, 35] [(2, .pointer (some ⟨b1, 0, none⟩)), (3, .pointer (some ⟨b2, 0, none⟩)), (4, .bool false), (5, .slice A93 n97 c94), (7, .slice A914 n918 c915), (35, .bool (!decide (e17 = 0)))] ((True) ∧ (True) ∧ (True) ∧ (True) ∧ True) rfl (by kernel_rfl) ⟨trivial, trivial, trivial, trivial, trivial⟩ ?_
  refine RunR.env [2, 3, 4, 5, 7, 35] [(2, .pointer (some ⟨b1, 0, none⟩)), (3, .pointer (some ⟨b2, 0, none⟩)), (4, .bool false), (5, .slice A93 n97 c94), (7, .slice A914 n918 c915), (35, .bool (!decide (e17 = 0)))] (by kernel_rfl) ?_
  have hk26 : (e17 = 0) := by omega
  refine RunR.enveq [(2, .pointer (some ⟨b1, 0, none⟩)), (3, .pointer (some ⟨b2, 0, none⟩)), (4, .bool false), (5, .slice A93 n97 c94), (7, .slice A914 n918 c915), (35, .bool false)] (by rw [decide_eq_true hk26]; try rfl) ?_
  refine RunR.sil hU [] 2 9 [2, 3, 4, 5, 35, 36, 37] [(2, .pointer (some ⟨b1, 0, none⟩)), (3, .pointer (some ⟨b2, 0, none⟩)), (4, .bool false), (5, .slice A93 n97 c94), (35, .bool false), (36, .slice A93 n97 c94), (37, .slice A914 n918 c915)] ((True) ∧ (True) ∧ True) rfl (by kernel_rfl) ⟨trivial, trivial, trivial⟩ ?_
  refine RunR.step (dst := some 38) (op := .call { callee := .value (.func 34), args := #[.tmp 36, .tmp 37], argTypes := #[23, 23] }) (by kernel_rfl) (Step.call 34 [.slice A93 n97 c94, .slice A914 n918 c915] (by kernel_rfl) (by kernel_rfl) [] [vw A93 (nums .u8 zs5), vw A914 (nums .u8 zs16)] [row 5 1 (.slice A914 n918 c915) n918 (nums .u8 zs16), row 5 1 (.slice A93 n97 c94) n97 (nums .u8 zs5), blk b2 65 (nums .u8 ps), blk b1 65 (nums .u8 ks)] (r_Equal_spec A93 c94 zs5 A914 c915 zs16 n97 n918 hp11 (by first | assumption | omega | (simp only [List.length_append, List.length_cons, List.length_nil, List.length_set, List.length_replicate, List.length_take, List.length_drop]; omega) | (simp only [fits] at *; omega) | (simp only [List.length_append, List.length_cons, List.length_nil, List.length_set, List.length_replicate, List.length_take, List.length_drop] at *; omega) | (simp; done) | decide) hp22 (by first | assumption | omega | (simp only [List.length_append, List.length_cons, List.length_nil, List.length_set, List.length_replicate, List.length_take, List.length_drop]; omega) | (simp only [fits] at *; omega) | (simp only [List.length_append, List.length_cons, List.length_nil, List.length_set, List.length_replicate, List.length_take, List.length_drop] at *; omega) | (simp; done) | decide) (by first | rfl | assumption | omega | (simp only [List.length_append, List.length_cons, List.length_nil, List.length_set, List.length_replicate, List.length_take, List.length_drop]; omega) | (simp; done)) (by first | rfl | assumption | omega | (simp only [List.length_append, List.length_cons, List.length_nil, List.length_set, List.length_replicate, List.length_take, List.length_drop]; omega) | (simp; done))) [] (by kernel_rfl) (((Lend.nil _).tells 0 (row 5 1 (.slice A914 n918 c915) n918 (nums .u8 zs16)) A914 (nums .u8 zs16) (by kernel_rfl) (tells_row _ _ _ _ _ _)).tells 1 (row 5 1 (.slice A93 n97 c94) n97 (nums .u8 zs5)) A93 (nums .u8 zs5) (by kernel_rfl) (tells_row _ _ _ _ _ _)) ?_)
  rintro _ _ ⟨rfl, rfl⟩
  refine RunR.sil hU [] 2 12 [2, 3, 4, 5, 40] [(2, .pointer (some ⟨b1, 0, none⟩)), (3, .pointer (some ⟨b2, 0, none⟩)), (4, .bool false), (5, .slice A93 n97 c94), (40, .bool (!decide (zs5 = zs16)))] ((True) ∧ (True) ∧ True) rfl (by kernel_rfl) ⟨trivial, trivial, trivial⟩ ?_
  refine RunR.env [2, 3, 4, 5, 40] [(2, .pointer (some ⟨b1, 0, none⟩)), (3, .pointer (some ⟨b2, 0, none⟩)), (4, .bool false), (5, .slice A93 n97 c94), (40, .bool (!decide (zs5 = zs16)))] (by kernel_rfl) ?_
  have hk27 : (zs5 = zs16) := by rw [(clamp_ok hp19 (by omega)).2, (clamp_ok hp8 (by omega)).2]; exact (clampL_twice ks hlk).symm
  refine RunR.enveq [(2, .pointer (some ⟨b1, 0, none⟩)), (3, .pointer (some ⟨b2, 0, none⟩)), (4, .bool false), (5, .slice A93 n97 c94), (40, .bool false)] (by rw [decide_eq_true hk27]; try rfl) ?_
  refine RunR.done (by kernel_rfl) ?_
  refine kseq_n ?_
  refine RunC.cond (b := false) (by kernel_rfl) (fun h => by cases h) (fun _ => ?_)
  refine RunC.skip ?_
  refine kseq_n ?_
  refine RunC.seq ?_
  refine RunC.regionU hU 8 [] [] [7] (bm 8 0) (by kernel_rfl) (by kernel_rfl) (by kernel_rfl) ?_
  refine RunU.sil hU false 0 (bm 8 1) 42 (.slice (some ⟨b1, 0, none⟩) 32 32) (True) (by kernel_rfl) trivial (by kernel_rfl) (by kernel_rfl) (fun _ _ _ h => h) ?_
  refine RunU.sil hU false 1 (bm 8 3) 43 (.slice (some ⟨b2, 0, none⟩) 32 32) (True) (by kernel_rfl) trivial (by kernel_rfl) (by kernel_rfl) (fun _ _ _ h => h) ?_
  refine RunU.one (dst := some 44) (op := .call { callee := .value (.func 32), args := #[.tmp 42, .tmp 43], argTypes := #[23, 23] }) 2 (bm 8 7) [] (by kernel_rfl) (by kernel_rfl) (Step.call 32 [.slice (some ⟨b1, 0, none⟩) 32 32, .slice (some ⟨b2, 0, none⟩) 32 32] (by kernel_rfl) (by kernel_rfl) [] [vw (some ⟨b1, 0, none⟩) (nums .u8 ks), vw (some ⟨b2, 0, none⟩) (nums .u8 ps)] [row 5 1 (.slice A914 n918 c915) n918 (nums .u8 zs16), row 5 1 (.slice A93 n97 c94) n97 (nums .u8 zs5), blk b2 65 (nums .u8 ps), blk b1 65 (nums .u8 ks)] (k_Shared_spec (some ⟨b1, 0, none⟩) 32 ks (some ⟨b2, 0, none⟩) 32 ps 32 32 hik (by first | assumption | omega | (simp only [List.length_append, List.length_cons, List.length_nil, List.length_set, List.length_replicate, List.length_take, List.length_drop]; omega) | (simp only [fits] at *; omega) | (simp only [List.length_append, List.length_cons, List.length_nil, List.length_set, List.length_replicate, List.length_take, List.length_drop] at *; omega) | (simp; done) | decide) (by first | assumption | omega | (simp only [List.length_append, List.length_cons, List.length_nil, List.length_set, List.length_replicate, List.length_take, List.length_drop]; omega) | (simp only [fits] at *; omega) | (simp only [List.length_append, List.length_cons, List.length_nil, List.length_set, List.length_replicate, List.length_take, List.length_drop] at *; omega) | (simp; done) | decide) hip (by first | assumption | omega | (simp only [List.length_append, List.length_cons, List.length_nil, List.length_set, List.length_replicate, List.length_take, List.length_drop]; omega) | (simp only [fits] at *; omega) | (simp only [List.length_append, List.length_cons, List.length_nil, List.length_set, List.length_replicate, List.length_take, List.length_drop] at *; omega) | (simp; done) | decide) (by first | assumption | omega | (simp only [List.length_append, List.length_cons, List.length_nil, List.length_set, List.length_replicate, List.length_take, List.length_drop]; omega) | (simp only [fits] at *; omega) | (simp only [List.length_append, List.length_cons, List.length_nil, List.length_set, List.length_replicate, List.length_take, List.length_drop] at *; omega) | (simp; done) | decide) (by first | rfl | assumption | omega | (simp only [List.length_append, List.length_cons, List.length_nil, List.length_set, List.length_replicate, List.length_take, List.length_drop]; omega) | (simp; done)) (by first | rfl | assumption | omega | (simp only [List.length_append, List.length_cons, List.length_nil, List.length_set, List.length_replicate, List.length_take, List.length_drop]; omega) | (simp; done))) [] (by kernel_rfl) (((Lend.nil _).tells 2 (blk b2 65 (nums .u8 ps)) (some ⟨b2, 0, none⟩) (nums .u8 ps) (by kernel_rfl) (tells_blk _ _ 0 _ _ (by simp))).tells 3 (blk b1 65 (nums .u8 ks)) (some ⟨b1, 0, none⟩) (nums .u8 ks) (by kernel_rfl) (tells_blk _ _ 0 _ _ (by simp))) ?_)
  rintro _ _ ⟨A928, c929, zs30, e31, rfl, rfl, hp32, hp33, hp34, hp35, hp36⟩
  refine ⟨.inl (by kernel_rfl), ?_⟩
  refine RunU.sil hU false 3 (bm 8 15) 41 (.tuple #[.slice A928 zs30.length c929, .int .i64 e31]) (True) (by kernel_rfl) trivial (by kernel_rfl) (by kernel_rfl) (fun _ _ _ h => h) ?_
  refine RunU.sil hU false 4 (bm 8 31) 45 (.slice A928 zs30.length c929) (True) (by kernel_rfl) trivial (by kernel_rfl) (by kernel_rfl) (fun _ _ _ h => h) ?_
  refine RunU.sil hU false 5 (bm 8 63) 46 (.int .i64 e31) (True) (by kernel_rfl) trivial (by kernel_rfl) (by kernel_rfl) (fun _ _ _ h => h) ?_
  refine RunU.sil hU false 6 (bm 8 127) 9 (.slice A928 zs30.length c929) (True) (by kernel_rfl) trivial (by kernel_rfl) (by kernel_rfl) (fun _ _ _ h => h) ?_
  refine RunU.sil hU false 7 (bm 8 255) 10 (.int .i64 e31) (True) (by kernel_rfl) trivial (by kernel_rfl) (by kernel_rfl) (fun _ _ _ h => h) ?_
  refine RunU.env [2, 3, 4, 5, 9, 10] [(2, .pointer (some ⟨b1, 0, none⟩)), (3, .pointer (some ⟨b2, 0, none⟩)), (4, .bool false), (5, .slice A93 n97 c94), (9, .slice A928 zs30.length c929), (10, .int .i64 e31)] (by kernel_rfl) ?_
  refine RunU.done (by kernel_rfl) ?_
  refine kseq_n ?_
  refine RunC.seq ?_
  refine RunC.region ?_
  refine RunR.sil hU [] 2 2 [2, 4, 5, 9, 10, 48, 49] [(2, .pointer (some ⟨b1, 0, none⟩)), (4, .bool false), (5, .slice A93 n97 c94), (9, .slice A928 zs30.length c929), (10, .int .i64 e31), (48, .slice A93 n97 c94), (49, .slice (some ⟨b2, 0, none⟩) 32 32)] ((True) ∧ (True) ∧ True) rfl (by kernel_rfl) ⟨trivial, trivial, trivial⟩ ?_
  refine RunR.step (dst := some 50) (op := .call { callee := .value (.func 32), args := #[.tmp 48, .tmp 49], argTypes := #[23, 23] }) (by kernel_rfl) (Step.call 32 [.slice A93 n97 c94, .slice (some ⟨b2, 0, none⟩) 32 32] (by kernel_rfl) (by kernel_rfl) [] [vw A93 (nums .u8 zs5), vw (some ⟨b2, 0, none⟩) (nums .u8 ps)] [row 5 1 (.slice A928 zs30.length c929) zs30.length (nums .u8 zs30), row 5 1 (.slice A914 n918 c915) n918 (nums .u8 zs16), row 5 1 (.slice A93 n97 c94) n97 (nums .u8 zs5), blk b2 65 (nums .u8 ps), blk b1 65 (nums .u8 ks)] (k_Shared_spec A93 c94 zs5 (some ⟨b2, 0, none⟩) 32 ps n97 32 hp11 (by first | assumption | omega | (simp only [List.length_append, List.length_cons, List.length_nil, List.length_set, List.length_replicate, List.length_take, List.length_drop]; omega) | (simp only [fits] at *; omega) | (simp only [List.length_append, List.length_cons, List.length_nil, List.length_set, List.length_replicate, List.length_take, List.length_drop] at *; omega) | (simp; done) | decide) (by first | assumption | omega | (simp only [List.length_append, List.length_cons, List.length_nil, List.length_set, List.length_replicate, List.length_take, List.length_drop]; omega) | (simp only [fits] at *; omega) | (simp only [List.length_append, List.length_cons, List.length_nil, List.length_set, List.length_replicate, List.length_take, List.length_drop] at *; omega) | (simp; done) | decide) hip (by first | assumption | omega | (simp only [List.length_append, List.length_cons, List.length_nil, List.length_set, List.length_replicate, List.length_take, List.length_drop]; omega) | (simp only [fits] at *; omega) | (simp only [List.length_append, List.length_cons, List.length_nil, List.length_set, List.length_replicate, List.length_take, List.length_drop] at *; omega) | (simp; done) | decide) (by first | assumption | omega | (simp only [List.length_append, List.length_cons, List.length_nil, List.length_set, List.length_replicate, List.length_take, List.length_drop]; omega) | (simp only [fits] at *; omega) | (simp only [List.length_append, List.length_cons, List.length_nil, List.length_set, List.length_replicate, List.length_take, List.length_drop] at *; omega) | (simp; done) | decide) (by first | rfl | assumption | omega | (simp only [List.length_append, List.length_cons, List.length_nil, List.length_set, List.length_replicate, List.length_take, List.length_drop]; omega) | (simp; done)) (by first | rfl | assumption | omega | (simp only [List.length_append, List.length_cons, List.length_nil, List.length_set, List.length_replicate, List.length_take, List.length_drop]; omega) | (simp; done))) [] (by kernel_rfl) (((Lend.nil _).tells 3 (blk b2 65 (nums .u8 ps)) (some ⟨b2, 0, none⟩) (nums .u8 ps) (by kernel_rfl) (tells_blk _ _ 0 _ _ (by simp))).tells 2 (row 5 1 (.slice A93 n97 c94) n97 (nums .u8 zs5)) A93 (nums .u8 zs5) (by kernel_rfl) (tells_row _ _ _ _ _ _)) ?_)
  rintro _ _ ⟨A937, c938, zs39, e40, rfl, rfl, hp41, hp42, hp43, hp44, hp45⟩
  refine RunR.sil hU [] 5 8 [2, 4, 5, 9, 10, 11, 12] [(2, .pointer (some ⟨b1, 0, none⟩)), (4, .bool false), (5, .slice A93 n97 c94), (9, .slice A928 zs30.length c929), (10, .int .i64 e31), (11, .slice A937 zs39.length c938), (12, .int .i64 e40)] ((True) ∧ (True) ∧ (True) ∧ (True) ∧ (True) ∧ True) rfl (by kernel_rfl) ⟨trivial, trivial, trivial, trivial, trivial, trivial⟩ ?_
  refine RunR.done (by kernel_rfl) ?_
  refine kseq_n ?_
  refine RunC.seq ?_
  refine RunC.region ?_
  refine RunR.sil hU [] 1 1 [4, 5, 9, 10, 11, 12, 54] [(4, .bool false), (5, .slice A93 n97 c94), (9, .slice A928 zs30.length c929), (10, .int .i64 e31), (11, .slice A937 zs39.length c938), (12, .int .i64 e40), (54, .slice (some ⟨b1, 0, none⟩) 32 32)] ((True) ∧ True) rfl (by kernel_rfl) ⟨trivial, trivial⟩ ?_
  refine RunR.step (dst := some 55) (op := .call { callee := .value (.func 35), args := #[.tmp 54], argTypes := #[23] }) (by kernel_rfl) (Step.call 35 [.slice (some ⟨b1, 0, none⟩) 32 32] (by kernel_rfl) (by kernel_rfl) [] [vw (some ⟨b1, 0, none⟩) (nums .u8 ks)] [row 5 1 (.slice A937 zs39.length c938) zs39.length (nums .u8 zs39), row 5 1 (.slice A928 zs30.length c929) zs30.length (nums .u8 zs30), row 5 1 (.slice A914 n918 c915) n918 (nums .u8 zs16), row 5 1 (.slice A93 n97 c94) n97 (nums .u8 zs5), blk b2 65 (nums .u8 ps), blk b1 65 (nums .u8 ks)] (k_Public_spec (some ⟨b1, 0, none⟩) 32 ks 32 hik (by first | assumption | omega | (simp only [List.length_append, List.length_cons, List.length_nil, List.length_set, List.length_replicate, List.length_take, List.length_drop]; omega) | (simp only [fits] at *; omega) | (simp only [List.length_append, List.length_cons, List.length_nil, List.length_set, List.length_replicate, List.length_take, List.length_drop] at *; omega) | (simp; done) | decide) (by first | assumption | omega | (simp only [List.length_append, List.length_cons, List.length_nil, List.length_set, List.length_replicate, List.length_take, List.length_drop]; omega) | (simp only [fits] at *; omega) | (simp only [List.length_append, List.length_cons, List.length_nil, List.length_set, List.length_replicate, List.length_take, List.length_drop] at *; omega) | (simp; done) | decide) (by first | rfl | assumption | omega | (simp only [List.length_append, List.length_cons, List.length_nil, List.length_set, List.length_replicate, List.length_take, List.length_drop]; omega) | (simp; done))) [] (by kernel_rfl) ((Lend.nil _).tells 5 (blk b1 65 (nums .u8 ks)) (some ⟨b1, 0, none⟩) (nums .u8 ks) (by kernel_rfl) (tells_blk _ _ 0 _ _ (by simp))) ?_)
  rintro _ _ ⟨A946, c947, zs48, e49, rfl, rfl, hp50, hp51, hp52, hp53, hp54⟩
  refine RunR.sil hU [] 5 7 [4, 5, 9, 10, 11, 12, 13, 14] [(4, .bool false), (5, .slice A93 n97 c94), (9, .slice A928 zs30.length c929), (10, .int .i64 e31), (11, .slice A937 zs39.length c938), (12, .int .i64 e40), (13, .slice A946 zs48.length c947), (14, .int .i64 e49)] ((True) ∧ (True) ∧ (True) ∧ (True) ∧ (True) ∧ True) rfl (by kernel_rfl) ⟨trivial, trivial, trivial, trivial, trivial, trivial⟩ ?_
  refine RunR.done (by kernel_rfl) ?_
  refine kseq_n ?_
  refine RunC.seq ?_
  refine RunC.region ?_
  refine RunR.sil hU [] 1 1 [4, 9, 10, 11, 12, 13, 14, 59] [(4, .bool false), (9, .slice A928 zs30.length c929), (10, .int .i64 e31), (11, .slice A937 zs39.length c938), (12, .int .i64 e40), (13, .slice A946 zs48.length c947), (14, .int .i64 e49), (59, .slice A93 n97 c94)] ((True) ∧ True) rfl (by kernel_rfl) ⟨trivial, trivial⟩ ?_
  refine RunR.step (dst := some 60) (op := .call { callee := .value (.func 35), args := #[.tmp 59], argTypes := #[23] }) (by kernel_rfl) (Step.call 35 [.slice A93 n97 c94] (by kernel_rfl) (by kernel_rfl) [] [vw A93 (nums .u8 zs5)] [row 5 1 (.slice A946 zs48.length c947) zs48.length (nums .u8 zs48), row 5 1 (.slice A937 zs39.length c938) zs39.length (nums .u8 zs39), row 5 1 (.slice A928 zs30.length c929) zs30.length (nums .u8 zs30), row 5 1 (.slice A914 n918 c915) n918 (nums .u8 zs16), row 5 1 (.slice A93 n97 c94) n97 (nums .u8 zs5), blk b2 65 (nums .u8 ps), blk b1 65 (nums .u8 ks)] (k_Public_spec A93 c94 zs5 n97 hp11 (by first | assumption | omega | (simp only [List.length_append, List.length_cons, List.length_nil, List.length_set, List.length_replicate, List.length_take, List.length_drop]; omega) | (simp only [fits] at *; omega) | (simp only [List.length_append, List.length_cons, List.length_nil, List.length_set, List.length_replicate, List.length_take, List.length_drop] at *; omega) | (simp; done) | decide) (by first | assumption | omega | (simp only [List.length_append, List.length_cons, List.length_nil, List.length_set, List.length_replicate, List.length_take, List.length_drop]; omega) | (simp only [fits] at *; omega) | (simp only [List.length_append, List.length_cons, List.length_nil, List.length_set, List.length_replicate, List.length_take, List.length_drop] at *; omega) | (simp; done) | decide) (by first | rfl | assumption | omega | (simp only [List.length_append, List.length_cons, List.length_nil, List.length_set, List.length_replicate, List.length_take, List.length_drop]; omega) | (simp; done))) [] (by kernel_rfl) ((Lend.nil _).tells 4 (row 5 1 (.slice A93 n97 c94) n97 (nums .u8 zs5)) A93 (nums .u8 zs5) (by kernel_rfl) (tells_row _ _ _ _ _ _)) ?_)
  rintro _ _ ⟨A955, c956, zs57, e58, rfl, rfl, hp59, hp60, hp61, hp62, hp63⟩
  refine RunR.sil hU [] 5 7 [4, 9, 10, 11, 12, 13, 14, 15, 16] [(4, .bool false), (9, .slice A928 zs30.length c929), (10, .int .i64 e31), (11, .slice A937 zs39.length c938), (12, .int .i64 e40), (13, .slice A946 zs48.length c947), (14, .int .i64 e49), (15, .slice A955 zs57.length c956), (16, .int .i64 e58)] ((True) ∧ (True) ∧ (True) ∧ (True) ∧ (True) ∧ True) rfl (by kernel_rfl) ⟨trivial, trivial, trivial, trivial, trivial, trivial⟩ ?_
  refine RunR.done (by kernel_rfl) ?_
  refine kseq_n ?_
  refine RunC.seq ?_
  refine RunC.region ?_
  refine RunR.sil hU [] 4 4 [4, 9, 11, 13, 14, 15, 16, 66] [(4, .bool false), (9, .slice A928 zs30.length c929), (11, .slice A937 zs39.length c938), (13, .slice A946 zs48.length c947), (14, .int .i64 e49), (15, .slice A955 zs57.length c956), (16, .int .i64 e58), (66, .bool (decide (e31 = e40)))] ((True) ∧ (True) ∧ (True) ∧ (True) ∧ True) rfl (by kernel_rfl) ⟨trivial, trivial, trivial, trivial, trivial⟩ ?_
  refine RunR.env [4, 9, 11, 13, 14, 15, 16, 66] [(4, .bool false), (9, .slice A928 zs30.length c929), (11, .slice A937 zs39.length c938), (13, .slice A946 zs48.length c947), (14, .int .i64 e49), (15, .slice A955 zs57.length c956), (16, .int .i64 e58), (66, .bool (decide (e31 = e40)))] (by kernel_rfl) ?_
  have hk64 : (e31 = e40) := by exact (share_same hp32 (share_loose hp41 (by rw [(clamp_ok hp8 (by omega)).2]; exact clampL_twice ks hlk) rfl (by omega) rfl)).1
  refine RunR.enveq [(4, .bool false), (9, .slice A928 zs30.length c929), (11, .slice A937 zs39.length c938), (13, .slice A946 zs48.length c947), (14, .int .i64 e49), (15, .slice A955 zs57.length c956), (16, .int .i64 e58), (66, .bool true)] (by rw [decide_eq_true hk64]; try rfl) ?_
  refine RunR.sil hU [] 2 6 [4, 13, 14, 15, 16, 66, 67, 68] [(4, .bool false), (13, .slice A946 zs48.length c947), (14, .int .i64 e49), (15, .slice A955 zs57.length c956), (16, .int .i64 e58), (66, .bool true), (67, .slice A928 zs30.length c929), (68, .slice A937 zs39.length c938)] ((True) ∧ (True) ∧ True) rfl (by kernel_rfl) ⟨trivial, trivial, trivial⟩ ?_
  refine RunR.step (dst := some 69) (op := .call { callee := .value (.func 34), args := #[.tmp 67, .tmp 68], argTypes := #[23, 23] }) (by kernel_rfl) (Step.call 34 [.slice A928 zs30.length c929, .slice A937 zs39.length c938] (by kernel_rfl) (by kernel_rfl) [] [vw A928 (nums .u8 zs30), vw A937 (nums .u8 zs39)] [row 5 1 (.slice A955 zs57.length c956) zs57.length (nums .u8 zs57), row 5 1 (.slice A946 zs48.length c947) zs48.length (nums .u8 zs48), row 5 1 (.slice A937 zs39.length c938) zs39.length (nums .u8 zs39), row 5 1 (.slice A928 zs30.length c929) zs30.length (nums .u8 zs30), row 5 1 (.slice A914 n918 c915) n918 (nums .u8 zs16), row 5 1 (.slice A93 n97 c94) n97 (nums .u8 zs5), blk b2 65 (nums .u8 ps), blk b1 65 (nums .u8 ks)] (r_Equal_spec A928 c929 zs30 A937 c938 zs39 zs30.length zs39.length hp34 (by first | assumption | omega | (simp only [List.length_append, List.length_cons, List.length_nil, List.length_set, List.length_replicate, List.length_take, List.length_drop]; omega) | (simp only [fits] at *; omega) | (simp only [List.length_append, List.length_cons, List.length_nil, List.length_set, List.length_replicate, List.length_take, List.length_drop] at *; omega) | (simp; done) | decide) hp43 (by first | assumption | omega | (simp only [List.length_append, List.length_cons, List.length_nil, List.length_set, List.length_replicate, List.length_take, List.length_drop]; omega) | (simp only [fits] at *; omega) | (simp only [List.length_append, List.length_cons, List.length_nil, List.length_set, List.length_replicate, List.length_take, List.length_drop] at *; omega) | (simp; done) | decide) (by first | rfl | assumption | omega | (simp only [List.length_append, List.length_cons, List.length_nil, List.length_set, List.length_replicate, List.length_take, List.length_drop]; omega) | (simp; done)) (by first | rfl | assumption | omega | (simp only [List.length_append, List.length_cons, List.length_nil, List.length_set, List.length_replicate, List.length_take, List.length_drop]; omega) | (simp; done))) [] (by kernel_rfl) (((Lend.nil _).tells 2 (row 5 1 (.slice A937 zs39.length c938) zs39.length (nums .u8 zs39)) A937 (nums .u8 zs39) (by kernel_rfl) (tells_row _ _ _ _ _ _)).tells 3 (row 5 1 (.slice A928 zs30.length c929) zs30.length (nums .u8 zs30)) A928 (nums .u8 zs30) (by kernel_rfl) (tells_row _ _ _ _ _ _)) ?_)
  rintro _ _ ⟨rfl, rfl⟩
  refine RunR.sil hU [] 2 9 [4, 13, 14, 15, 16, 71] [(4, .bool false), (13, .slice A946 zs48.length c947), (14, .int .i64 e49), (15, .slice A955 zs57.length c956), (16, .int .i64 e58), (71, .bool (decide (zs30 = zs39)))] ((True) ∧ (True) ∧ True) rfl (by kernel_rfl) ⟨trivial, trivial, trivial⟩ ?_
  refine RunR.env [4, 13, 14, 15, 16, 71] [(4, .bool false), (13, .slice A946 zs48.length c947), (14, .int .i64 e49), (15, .slice A955 zs57.length c956), (16, .int .i64 e58), (71, .bool (decide (zs30 = zs39)))] (by kernel_rfl) ?_
  have hk65 : (zs30 = zs39) := by exact (share_same hp32 (share_loose hp41 (by rw [(clamp_ok hp8 (by omega)).2]; exact clampL_twice ks hlk) rfl (by omega) rfl)).2
  refine RunR.enveq [(4, .bool false), (13, .slice A946 zs48.length c947), (14, .int .i64 e49), (15, .slice A955 zs57.length c956), (16, .int .i64 e58), (71, .bool true)] (by rw [decide_eq_true hk65]; try rfl) ?_
  refine RunR.sil hU [] 4 13 [4, 13, 15, 16, 75] [(4, .bool false), (13, .slice A946 zs48.length c947), (15, .slice A955 zs57.length c956), (16, .int .i64 e58), (75, .bool (decide (e49 = 0)))] ((True) ∧ (True) ∧ (True) ∧ (True) ∧ True) rfl (by kernel_rfl) ⟨trivial, trivial, trivial, trivial, trivial⟩ ?_
  refine RunR.env [4, 13, 15, 16, 75] [(4, .bool false), (13, .slice A946 zs48.length c947), (15, .slice A955 zs57.length c956), (16, .int .i64 e58), (75, .bool (decide (e49 = 0)))] (by kernel_rfl) ?_
  have hk66 : (e49 = 0) := by exact (pub_code hp50 (by omega)).1
  refine RunR.enveq [(4, .bool false), (13, .slice A946 zs48.length c947), (15, .slice A955 zs57.length c956), (16, .int .i64 e58), (75, .bool true)] (by rw [decide_eq_true hk66]; try rfl) ?_
  refine RunR.sil hU [] 4 17 [4, 13, 15, 79] [(4, .bool false), (13, .slice A946 zs48.length c947), (15, .slice A955 zs57.length c956), (79, .bool (decide (e58 = 0)))] ((True) ∧ (True) ∧ (True) ∧ (True) ∧ True) rfl (by kernel_rfl) ⟨trivial, trivial, trivial, trivial, trivial⟩ ?_
  refine RunR.env [4, 13, 15, 79] [(4, .bool false), (13, .slice A946 zs48.length c947), (15, .slice A955 zs57.length c956), (79, .bool (decide (e58 = 0)))] (by kernel_rfl) ?_
  have hk67 : (e58 = 0) := by exact (pub_code hp59 (by omega)).1
  refine RunR.enveq [(4, .bool false), (13, .slice A946 zs48.length c947), (15, .slice A955 zs57.length c956), (79, .bool true)] (by rw [decide_eq_true hk67]; try rfl) ?_
  refine RunR.sil hU [] 2 19 [4, 79, 80, 81] [(4, .bool false), (79, .bool true), (80, .slice A946 zs48.length c947), (81, .slice A955 zs57.length c956)] ((True) ∧ (True) ∧ True) rfl (by kernel_rfl) ⟨trivial, trivial, trivial⟩ ?_
  refine RunR.step (dst := some 82) (op := .call { callee := .value (.func 34), args := #[.tmp 80, .tmp 81], argTypes := #[23, 23] }) (by kernel_rfl) (Step.call 34 [.slice A946 zs48.length c947, .slice A955 zs57.length c956] (by kernel_rfl) (by kernel_rfl) [] [vw A946 (nums .u8 zs48), vw A955 (nums .u8 zs57)] [row 5 1 (.slice A955 zs57.length c956) zs57.length (nums .u8 zs57), row 5 1 (.slice A946 zs48.length c947) zs48.length (nums .u8 zs48), row 5 1 (.slice A937 zs39.length c938) zs39.length (nums .u8 zs39), row 5 1 (.slice A928 zs30.length c929) zs30.length (nums .u8 zs30), row 5 1 (.slice A914 n918 c915) n918 (nums .u8 zs16), row 5 1 (.slice A93 n97 c94) n97 (nums .u8 zs5), blk b2 65 (nums .u8 ps), blk b1 65 (nums .u8 ks)] (r_Equal_spec A946 c947 zs48 A955 c956 zs57 zs48.length zs57.length hp52 (by first | assumption | omega | (simp only [List.length_append, List.length_cons, List.length_nil, List.length_set, List.length_replicate, List.length_take, List.length_drop]; omega) | (simp only [fits] at *; omega) | (simp only [List.length_append, List.length_cons, List.length_nil, List.length_set, List.length_replicate, List.length_take, List.length_drop] at *; omega) | (simp; done) | decide) hp61 (by first | assumption | omega | (simp only [List.length_append, List.length_cons, List.length_nil, List.length_set, List.length_replicate, List.length_take, List.length_drop]; omega) | (simp only [fits] at *; omega) | (simp only [List.length_append, List.length_cons, List.length_nil, List.length_set, List.length_replicate, List.length_take, List.length_drop] at *; omega) | (simp; done) | decide) (by first | rfl | assumption | omega | (simp only [List.length_append, List.length_cons, List.length_nil, List.length_set, List.length_replicate, List.length_take, List.length_drop]; omega) | (simp; done)) (by first | rfl | assumption | omega | (simp only [List.length_append, List.length_cons, List.length_nil, List.length_set, List.length_replicate, List.length_take, List.length_drop]; omega) | (simp; done))) [] (by kernel_rfl) (((Lend.nil _).tells 0 (row 5 1 (.slice A955 zs57.length c956) zs57.length (nums .u8 zs57)) A955 (nums .u8 zs57) (by kernel_rfl) (tells_row _ _ _ _ _ _)).tells 1 (row 5 1 (.slice A946 zs48.length c947) zs48.length (nums .u8 zs48)) A946 (nums .u8 zs48) (by kernel_rfl) (tells_row _ _ _ _ _ _)) ?_)
  rintro _ _ ⟨rfl, rfl⟩
  refine RunR.sil hU [] 2 22 [4] [(4, .bool (decide (zs48 = zs57)))] ((True) ∧ (True) ∧ True) rfl (by kernel_rfl) ⟨trivial, trivial, trivial⟩ ?_
  refine RunR.env [4] [(4, .bool (decide (zs48 = zs57)))] (by kernel_rfl) ?_
  have hk68 : (zs48 = zs57) := by exact (pub_same hp50 (pub_loose hp59 (by rw [(clamp_ok hp8 (by omega)).2]; exact clampL_twice ks hlk) (by omega))).2
  refine RunR.enveq [(4, .bool true)] (by rw [decide_eq_true hk68]; try rfl) ?_
  refine RunR.done (by kernel_rfl) ?_
  refine kseq_n ?_
  refine RunC.ret ?_
  refine kret_r [.bool true] [] [] ⟨rfl, trivial⟩ (by kernel_rfl) rfl ⟨rfl, rfl⟩
end Go.Proofs.Ytaaplakahkgclaa.LCurveClamped
