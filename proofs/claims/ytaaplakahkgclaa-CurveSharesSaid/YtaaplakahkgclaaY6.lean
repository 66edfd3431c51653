/- What these functions compute: a contract for each, walked through its code. -/
import Derived.Test.YtaaplakahkgclaaSLzh
import Derived.Test.YtaaplakahkgclaaKPure
import Derived.Test.YtaaplakahkgclaaProg
import Derived.Test.YtaaplakahkgclaaX1
import Derived.Test.YtaaplakahkgclaaX2
import Derived.Test.YtaaplakahkgclaaX3
import Derived.Test.YtaaplakahkgclaaX4
import Derived.Test.YtaaplakahkgclaaX5
import Derived.Test.YtaaplakahkgclaaX6
import Derived.Test.YtaaplakahkgclaaX7
import Derived.Test.YtaaplakahkgclaaX8
import Derived.Test.YtaaplakahkgclaaX9
import Derived.Test.YtaaplakahkgclaaY1
import Derived.Test.YtaaplakahkgclaaY2
import Derived.Test.YtaaplakahkgclaaY3
import Derived.Test.YtaaplakahkgclaaY4
import Derived.Test.YtaaplakahkgclaaY5
namespace Go.Proofs.Ytaaplakahkgclaa.Y6
open Go Go.Proofs.Ytaaplakahkgclaa.SL Go.Proofs.Ytaaplakahkgclaa.SL.W Go.Proofs.Ytaaplakahkgclaa.SL.F Go.Proofs.Ytaaplakahkgclaa.SL.N Go.Proofs.Ytaaplakahkgclaa.SL.E Go.Proofs.Ytaaplakahkgclaa.SL.K Go.Proofs.Ytaaplakahkgclaa.X1 Go.Proofs.Ytaaplakahkgclaa.X2 Go.Proofs.Ytaaplakahkgclaa.X3 Go.Proofs.Ytaaplakahkgclaa.X4 Go.Proofs.Ytaaplakahkgclaa.X5 Go.Proofs.Ytaaplakahkgclaa.X6 Go.Proofs.Ytaaplakahkgclaa.X7 Go.Proofs.Ytaaplakahkgclaa.X8 Go.Proofs.Ytaaplakahkgclaa.X9 Go.Proofs.Ytaaplakahkgclaa.Y1 Go.Proofs.Ytaaplakahkgclaa.Y2 Go.Proofs.Ytaaplakahkgclaa.Y3 Go.Proofs.Ytaaplakahkgclaa.Y4 Go.Proofs.Ytaaplakahkgclaa.Y5
set_option linter.unusedVariables false
set_option linter.unusedSimpArgs false
set_option maxRecDepth 100000
set_option maxHeartbeats 40000000
def U : Tab where
  und := [(3, .int .i64), (91, .array 32 3), (92, .array 32 3)]
  fld := []
  sz := [(3, 1), (91, 32), (92, 32)]
  ti := [(3, (1, 8, .int .i64 0)), (91, (32, 256, z32)), (92, (32, 256, z32))]
  bld := []

theorem hU : U.OK Try.prog where
  und := by
    intro p hp
    simp only [U, List.mem_cons, List.not_mem_nil, or_false] at hp
    rcases hp with rfl | rfl | rfl
    · exact Try.underlying3
    · exact Try.underlying91
    · exact Try.underlying92
  fld := by
    intro p hp; cases hp
  sz := by
    intro p hp
    simp only [U, List.mem_cons, List.not_mem_nil, or_false] at hp
    rcases hp with rfl | rfl | rfl
    · exact ⟨Try.prog.types[3]!, by kernel_rfl, by kernel_rfl⟩
    · exact ⟨Try.prog.types[91]!, by kernel_rfl, by kernel_rfl⟩
    · exact ⟨Try.prog.types[92]!, by kernel_rfl, by kernel_rfl⟩
  ti := by
    intro p hp
    simp only [U, List.mem_cons, List.not_mem_nil, or_false] at hp
    rcases hp with rfl | rfl | rfl
    · exact ⟨Try.prog.types[3]!, by kernel_rfl, by kernel_rfl, by kernel_rfl, by kernel_rfl⟩
    · exact ⟨Try.prog.types[91]!, by kernel_rfl, by kernel_rfl, by kernel_rfl, by kernel_rfl⟩
    · exact ⟨Try.prog.types[92]!, by kernel_rfl, by kernel_rfl, by kernel_rfl, by kernel_rfl⟩
  bld := by
    intro p hp; cases hp
  mixed := by kernel_rfl

theorem n_Sub_spec (xs : List Int) (x : Int) (ys : List Int) (y : Int) (hX : Dg xs x) (hlx : xs.length = 32) (hY : Dg ys y) (hly : ys.length = 32) (hyP : y ≤ P) :
    CallsS Try.prog 80 [ag .i64 xs, ag .i64 ys] [] (fun r D => ∃ (zs : List Int), r = ag .i64 zs ∧ D = [] ∧ (Dg zs ((x - y) % P)) ∧ (zs.length = 32)) := by
  refine CallsS.enter hU Try.f80 _ [.cell 4 92] 10 Try.func80 rfl (by decide) rfl rfl (by kernel_rfl) fun w0 W => ?_
  refine RunC.sr ?_
  refine RunR.st (some 2) (.box 92 (.tmp 0)) (Step.box (ag .i64 xs) (by kernel_rfl) (by kernel_rfl) (fun b1 => ?_))
  refine RunR.st (some 3) (.box 92 (.tmp 1)) (Step.box (ag .i64 ys) (by kernel_rfl) (by kernel_rfl) (fun b2 => ?_))
  refine RunR.st (some 4) (.alloc 92) (Step.al hU 32 256 z32 (fun b3 => ?_))
  have hl4 : (List.replicate 32 (0 : Int)).length = 32 := List.length_replicate
  refine RunR.nn ?_
  refine RunC.seq ?_
  refine RunC.regionU hU 6 [blk b1 92 (nums .i64 xs), blk b2 92 (nums .i64 ys)] [2, 1] [4, 5] (bm 6 0) (by kernel_rfl) (by kernel_rfl) (by kernel_rfl) ?_
  refine RunU.rd 0 (bm 6 1) 5 (.load 92 (.tmp 2)) (ag .i64 xs) [2, 1] (Reads.load_arr hU 0 b1 92 32 .i64 xs (by kernel_rfl) (by kernel_rfl) (by kernel_rfl) (by kernel_rfl) (by omega)) ?_
  refine RunU.rd 2 (bm 6 5) 7 (.load 92 (.tmp 3)) (ag .i64 ys) [2, 1] (Reads.load_arr hU 1 b2 92 32 .i64 ys (by kernel_rfl) (by kernel_rfl) (by kernel_rfl) (by kernel_rfl) (by omega)) ?_
  refine RunU.on (some 6) (.call { callee := .value (.func 102), args := #[], argTypes := #[] }) 1 (bm 6 7) [2, 1] (Step.cn 102 [] [] [blk b3 92 (nums .i64 (List.replicate 32 (0 : Int))), blk b2 92 (nums .i64 ys), blk b1 92 (nums .i64 xs)] (n_prime_spec) [] ?_)
  rintro _ _ ⟨zs5, rfl, rfl, hp6, hp7⟩
  refine orL ?_
  refine RunU.on (some 8) (.call { callee := .value (.func 101), args := #[.tmp 6, .tmp 7], argTypes := #[92, 92] }) 3 (bm 6 15) [2, 1] (Step.cn 101 [ag .i64 zs5, ag .i64 ys] [] [blk b3 92 (nums .i64 (List.replicate 32 (0 : Int))), blk b2 92 (nums .i64 ys), blk b1 92 (nums .i64 xs)] (n_minus_spec zs5 P ys y (by assumption) (by assumption) (by assumption) (by assumption) (by assumption)) [] ?_)
  rintro _ _ ⟨zs8, rfl, rfl, hp9, hp10⟩
  refine orL ?_
  refine RunU.on (some 9) (.call { callee := .value (.func 79), args := #[.tmp 5, .tmp 8], argTypes := #[92, 92] }) 4 (bm 6 31) [] (Step.cn 79 [ag .i64 xs, ag .i64 zs8] [] [blk b3 92 (nums .i64 (List.replicate 32 (0 : Int))), blk b2 92 (nums .i64 ys), blk b1 92 (nums .i64 xs)] (n_Add_spec xs x zs8 (P - y) (by assumption) (by assumption) (by assumption) (by assumption)) [] ?_)
  rintro _ _ ⟨zs11, rfl, rfl, hp12, hp13⟩
  refine orR ?_
  refine RunU.on none (.store 92 (.tmp 4) (.tmp 9)) 5 (bm 6 63) [] (Step.store_arr hU 0 b3 92 32 .i64 (List.replicate 32 (0 : Int)) zs11 (by kernel_rfl) (by kernel_rfl) (by kernel_rfl) (by kernel_rfl) (by rfl) (by omega) ?_)
  refine orR ?_
  refine RunU.ev [4] [(4, pt b3)] ?_
  refine RunU.dn ?_
  refine kseq_n ?_
  refine RunC.ret ?_
  refine kret_r [ag .i64 zs11] [] [] ⟨⟨0, b3, 0, 92, nums .i64 zs11, rfl, rfl, (loadv_arr (U := U) (n := 32) (by kernel_rfl) (by kernel_rfl) (by omega))⟩, trivial⟩ (by kernel_rfl) rfl ⟨zs11, rfl, rfl, (by (rw [show (x - y) % P = (x + (P - y)) % P by rw [show x + (P - y) = (x - y) + P by omega, Int.add_emod_right]]; assumption)), (by assumption)⟩
end Go.Proofs.Ytaaplakahkgclaa.Y6
