/- What these functions compute: a contract for each, walked through its code. -/
import Derived.Test.YtaaplakahkgclaaSLzh
import Derived.Test.YtaaplakahkgclaaKPure
import Derived.Test.YtaaplakahkgclaaProg
import Derived.Test.YtaaplakahkgclaaX1
import Derived.Test.YtaaplakahkgclaaX2
import Derived.Test.YtaaplakahkgclaaX3
import Derived.Test.YtaaplakahkgclaaX4
import Derived.Test.YtaaplakahkgclaaX5
import Derived.Test.YtaaplakahkgclaaX6
import Derived.Test.YtaaplakahkgclaaX7
import Derived.Test.YtaaplakahkgclaaX8
import Derived.Test.YtaaplakahkgclaaX9
import Derived.Test.YtaaplakahkgclaaY1
import Derived.Test.YtaaplakahkgclaaY2
namespace Go.Proofs.Ytaaplakahkgclaa.Y3
open Go Go.Proofs.Ytaaplakahkgclaa.SL Go.Proofs.Ytaaplakahkgclaa.SL.W Go.Proofs.Ytaaplakahkgclaa.SL.F Go.Proofs.Ytaaplakahkgclaa.SL.N Go.Proofs.Ytaaplakahkgclaa.SL.E Go.Proofs.Ytaaplakahkgclaa.SL.K Go.Proofs.Ytaaplakahkgclaa.X1 Go.Proofs.Ytaaplakahkgclaa.X2 Go.Proofs.Ytaaplakahkgclaa.X3 Go.Proofs.Ytaaplakahkgclaa.X4 Go.Proofs.Ytaaplakahkgclaa.X5 Go.Proofs.Ytaaplakahkgclaa.X6 Go.Proofs.Ytaaplakahkgclaa.X7 Go.Proofs.Ytaaplakahkgclaa.X8 Go.Proofs.Ytaaplakahkgclaa.X9 Go.Proofs.Ytaaplakahkgclaa.Y1 Go.Proofs.Ytaaplakahkgclaa.Y2
set_option linter.unusedVariables false
set_option linter.unusedSimpArgs false
set_option maxRecDepth 100000
set_option maxHeartbeats 40000000
def U : Tab where
  und := [(3, .int .i64), (91, .array 32 3), (92, .array 32 3)]
  fld := []
  sz := [(3, 1), (91, 32), (92, 32)]
  ti := [(3, (1, 8, .int .i64 0)), (91, (32, 256, z32)), (92, (32, 256, z32))]
  bld := []

theorem hU : U.OK Try.prog where
  und := by
    intro p hp
    simp only [U, List.mem_cons, List.not_mem_nil, or_false] at hp
    rcases hp with rfl | rfl | rfl
    · exact Try.underlying3
    · exact Try.underlying91
    · exact Try.underlying92
  fld := by
    intro p hp; cases hp
  sz := by
    intro p hp
    simp only [U, List.mem_cons, List.not_mem_nil, or_false] at hp
    rcases hp with rfl | rfl | rfl
    · exact ⟨Try.prog.types[3]!, by kernel_rfl, by kernel_rfl⟩
    · exact ⟨Try.prog.types[91]!, by kernel_rfl, by kernel_rfl⟩
    · exact ⟨Try.prog.types[92]!, by kernel_rfl, by kernel_rfl⟩
  ti := by
    intro p hp
    simp only [U, List.mem_cons, List.not_mem_nil, or_false] at hp
    rcases hp with rfl | rfl | rfl
    · exact ⟨Try.prog.types[3]!, by kernel_rfl, by kernel_rfl, by kernel_rfl, by kernel_rfl⟩
    · exact ⟨Try.prog.types[91]!, by kernel_rfl, by kernel_rfl, by kernel_rfl, by kernel_rfl⟩
    · exact ⟨Try.prog.types[92]!, by kernel_rfl, by kernel_rfl, by kernel_rfl, by kernel_rfl⟩
  bld := by
    intro p hp; cases hp
  mixed := by kernel_rfl

theorem n_Rest_spec (xs : List Int) (x : Int) (hX : Dg xs x) (hlx : xs.length = 32) :
    CallsS Try.prog 83 [ag .i64 xs] [] (fun r D => ∃ (zs : List Int), r = ag .i64 zs ∧ D = [] ∧ (Dg zs (x % P)) ∧ (zs.length = 32)) := by
  refine CallsS.enter hU Try.f83 _ [.cell 2 92] 13 Try.func83 rfl (by decide) rfl rfl (by kernel_rfl) fun w0 W => ?_
  refine RunC.sr ?_
  refine RunR.st (some 1) (.box 92 (.tmp 0)) (Step.box (ag .i64 xs) (by kernel_rfl) (by kernel_rfl) (fun b1 => ?_))
  refine RunR.st (some 2) (.alloc 92) (Step.al hU 32 256 z32 (fun b2 => ?_))
  have hl3 : (List.replicate 32 (0 : Int)).length = 32 := List.length_replicate
  refine RunR.nx ?_
  refine RunR.st (some 4) (.call { callee := .value (.func 102), args := #[], argTypes := #[] }) (Step.cn 102 [] [] [blk b2 92 (nums .i64 (List.replicate 32 (0 : Int))), blk b1 92 (nums .i64 xs)] (n_prime_spec) [] ?_)
  rintro _ _ ⟨zs4, rfl, rfl, hp5, hp6⟩
  refine RunR.st (some 3) (.alloc 92) (Step.al hU 32 256 z32 (fun b7 => ?_))
  have hl8 : (List.replicate 32 (0 : Int)).length = 32 := List.length_replicate
  refine RunR.st none (.store 92 (.tmp 3) (.tmp 4)) (Step.store_arr hU 0 b7 92 32 .i64 (List.replicate 32 (0 : Int)) zs4 (by kernel_rfl) (by kernel_rfl) (by kernel_rfl) (by kernel_rfl) (by rfl) (by omega) ?_)
  refine RunR.nn ?_
  refine RunC.seq ?_
  refine RunC.block ?_
  refine RunC.env [1, 2, 3] [(1, pt b1), (2, pt b2), (3, pt b7)] (by kernel_rfl) ?_
  refine RunC.only [2, 0, 0] [blk b1 92 (nums .i64 xs), blk b7 92 (nums .i64 zs4), blk b2 92 (nums .i64 (List.replicate 32 (0 : Int)))] (by kernel_rfl) ?_
  refine RunC.loop (σ := Nat) (fun n_ t_ D_ => ∃ (os : List Int) (z : Int), (Dg os z) ∧ (z % P = x % P) ∧ (os.length = 32) ∧ n_ = (z.toNat : Nat) ∧ t_ = [(1, pt b1), (2, pt b2), (3, pt b7)] ∧ D_ = [blk b1 92 (nums .i64 os), blk b7 92 (nums .i64 zs4), blk b2 92 (nums .i64 (List.replicate 32 (0 : Int)))]) id _ ⟨xs, x, (by assumption), (by omega), (by assumption), rfl, rfl, rfl⟩ ?_
  rintro n_ _ _ ⟨os, z, hO, hzm, hol, rfl, rfl, rfl⟩
  refine RunC.seq ?_
  refine RunC.sr ?_
  refine RunR.st (some 5) (.load 92 (.tmp 1)) (Step.load_arr hU 0 b1 92 32 .i64 os (by kernel_rfl) (by kernel_rfl) (by kernel_rfl) (by kernel_rfl) (by omega) (by kernel_rfl) ?_)
  refine RunR.st (some 6) (.load 92 (.tmp 3)) (Step.load_arr hU 1 b7 92 32 .i64 zs4 (by kernel_rfl) (by kernel_rfl) (by kernel_rfl) (by kernel_rfl) (by omega) (by kernel_rfl) ?_)
  refine RunR.st (some 7) (.call { callee := .value (.func 103), args := #[.tmp 5, .tmp 6], argTypes := #[92, 92] }) (Step.cn 103 [ag .i64 os, ag .i64 zs4] [] [blk b1 92 (nums .i64 os), blk b7 92 (nums .i64 zs4), blk b2 92 (nums .i64 (List.replicate 32 (0 : Int)))] (n_less_spec os z zs4 P (by assumption) (by assumption) (by assumption) (by assumption)) [] ?_)
  rintro _ _ ⟨rfl, rfl⟩
  refine RunR.sl hU [] 1 4 [1, 2, 3, 8] [(1, pt b1), (2, pt b2), (3, pt b7), (8, .bool (!decide (z < P)))] 1 ?_
  refine RunR.nn ?_
  refine RunC.condn (z < P) (by kernel_rfl) (fun h9 => ?_) (fun h9 => ?_)
  · skip
    refine RunC.ks ?_
    refine RunC.block ?_
    refine RunC.region ?_
    refine RunR.st (some 9) (.load 92 (.tmp 1)) (Step.load_arr hU 0 b1 92 32 .i64 os (by kernel_rfl) (by kernel_rfl) (by kernel_rfl) (by kernel_rfl) (by omega) (by kernel_rfl) ?_)
    refine RunR.st (some 10) (.load 92 (.tmp 3)) (Step.load_arr hU 1 b7 92 32 .i64 zs4 (by kernel_rfl) (by kernel_rfl) (by kernel_rfl) (by kernel_rfl) (by omega) (by kernel_rfl) ?_)
    refine RunR.st (some 11) (.call { callee := .value (.func 101), args := #[.tmp 9, .tmp 10], argTypes := #[92, 92] }) (Step.cn 101 [ag .i64 os, ag .i64 zs4] [] [blk b1 92 (nums .i64 os), blk b7 92 (nums .i64 zs4), blk b2 92 (nums .i64 (List.replicate 32 (0 : Int)))] (n_minus_spec os z zs4 P (by assumption) (by assumption) (by assumption) (by assumption) (by omega)) [] ?_)
    rintro _ _ ⟨zs10, rfl, rfl, hp11, hp12⟩
    refine RunR.st none (.store 92 (.tmp 1) (.tmp 11)) (Step.store_arr hU 0 b1 92 32 .i64 os zs10 (by kernel_rfl) (by kernel_rfl) (by kernel_rfl) (by kernel_rfl) (by omega) (by omega) ?_)
    refine RunR.dn ?_
    refine kblock_n ?_
    refine kloop_n _ [1, 2, 3] [0, 0, 0] [(1, pt b1), (2, pt b2), (3, pt b7)] [blk b1 92 (nums .i64 zs10), blk b7 92 (nums .i64 zs4), blk b2 92 (nums .i64 (List.replicate 32 (0 : Int)))] (by kernel_rfl) (by kernel_rfl) ?_ ⟨zs10, (z - P), (by assumption), (by rw [Int.sub_emod, Int.emod_self, Int.sub_zero, Int.emod_emod]; exact hzm), (by assumption), rfl, (by rfl), (by rfl)⟩
    show ((z - P).toNat : Nat) < (z.toNat : Nat)
    have := hO.lo; simp only [P] at *; omega
  · skip
    refine RunC.exit ?_
    refine kseq_e ?_
    refine kloop_e ?_
    refine kblock_e ?_
    refine kseq_n ?_
    refine RunC.sr ?_
    refine RunR.st (some 12) (.load 92 (.tmp 1)) (Step.load_arr hU 0 b1 92 32 .i64 os (by kernel_rfl) (by kernel_rfl) (by kernel_rfl) (by kernel_rfl) (by omega) (by kernel_rfl) ?_)
    refine RunR.st none (.store 92 (.tmp 2) (.tmp 12)) (Step.store_arr hU 2 b2 92 32 .i64 (List.replicate 32 (0 : Int)) os (by kernel_rfl) (by kernel_rfl) (by kernel_rfl) (by kernel_rfl) (by rfl) (by omega) ?_)
    refine RunR.nn ?_
    refine RunC.ret ?_
    refine kret_r [ag .i64 os] [] [] ⟨⟨0, b2, 0, 92, nums .i64 os, rfl, rfl, (loadv_arr (U := U) (n := 32) (by kernel_rfl) (by kernel_rfl) (by omega))⟩, trivial⟩ (by kernel_rfl) rfl ⟨os, rfl, rfl, (by have hv := hO; rw [show z = x % P by rw [← hzm]; exact (Int.emod_eq_of_lt hO.lo (by omega)).symm] at hv; exact hv), (by assumption)⟩
end Go.Proofs.Ytaaplakahkgclaa.Y3
