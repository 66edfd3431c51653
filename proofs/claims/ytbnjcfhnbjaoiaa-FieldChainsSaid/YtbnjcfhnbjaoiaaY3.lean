/- What these functions compute: a contract for each, walked through its code. -/
import Derived.Test.YtbnjcfhnbjaoiaaEPure
import Derived.Test.YtbnjcfhnbjaoiaaProg
import Derived.Test.YtbnjcfhnbjaoiaaX1
import Derived.Test.YtbnjcfhnbjaoiaaX2
import Derived.Test.YtbnjcfhnbjaoiaaX3
import Derived.Test.YtbnjcfhnbjaoiaaX4
import Derived.Test.YtbnjcfhnbjaoiaaX5
import Derived.Test.YtbnjcfhnbjaoiaaX6
import Derived.Test.YtbnjcfhnbjaoiaaX7
import Derived.Test.YtbnjcfhnbjaoiaaX8
import Derived.Test.YtbnjcfhnbjaoiaaX9
import Derived.Test.YtbnjcfhnbjaoiaaY1
import Derived.Test.YtbnjcfhnbjaoiaaY2
namespace Go.Proofs.Ytbnjcfhnbjaoiaa.Y3
open Go Go.Proofs.Ytbnjcfhnbjaoiaa.SL Go.Proofs.Ytbnjcfhnbjaoiaa.SL.W Go.Proofs.Ytbnjcfhnbjaoiaa.SL.F Go.Proofs.Ytbnjcfhnbjaoiaa.SL.N Go.Proofs.Ytbnjcfhnbjaoiaa.SL.E Go.Proofs.Ytbnjcfhnbjaoiaa.X1 Go.Proofs.Ytbnjcfhnbjaoiaa.X2 Go.Proofs.Ytbnjcfhnbjaoiaa.X3 Go.Proofs.Ytbnjcfhnbjaoiaa.X4 Go.Proofs.Ytbnjcfhnbjaoiaa.X5 Go.Proofs.Ytbnjcfhnbjaoiaa.X6 Go.Proofs.Ytbnjcfhnbjaoiaa.X7 Go.Proofs.Ytbnjcfhnbjaoiaa.X8 Go.Proofs.Ytbnjcfhnbjaoiaa.X9 Go.Proofs.Ytbnjcfhnbjaoiaa.Y1 Go.Proofs.Ytbnjcfhnbjaoiaa.Y2
set_option linter.unusedVariables false
set_option linter.unusedSimpArgs false
set_option maxRecDepth 100000
set_option maxHeartbeats 40000000
def U : Tab where
  und := [(3, .int .i64), (30, .array 32 3), (31, .array 32 3)]
  fld := []
  sz := [(3, 1), (30, 32), (31, 32)]
  ti := [(3, (1, 8, .int .i64 0)), (30, (32, 256, .agg #[.int .i64 0, .int .i64 0, .int .i64 0, .int .i64 0, .int .i64 0, .int .i64 0, .int .i64 0, .int .i64 0, .int .i64 0, .int .i64 0, .int .i64 0, .int .i64 0, .int .i64 0, .int .i64 0, .int .i64 0, .int .i64 0, .int .i64 0, .int .i64 0, .int .i64 0, .int .i64 0, .int .i64 0, .int .i64 0, .int .i64 0, .int .i64 0, .int .i64 0, .int .i64 0, .int .i64 0, .int .i64 0, .int .i64 0, .int .i64 0, .int .i64 0, .int .i64 0])), (31, (32, 256, .agg #[.int .i64 0, .int .i64 0, .int .i64 0, .int .i64 0, .int .i64 0, .int .i64 0, .int .i64 0, .int .i64 0, .int .i64 0, .int .i64 0, .int .i64 0, .int .i64 0, .int .i64 0, .int .i64 0, .int .i64 0, .int .i64 0, .int .i64 0, .int .i64 0, .int .i64 0, .int .i64 0, .int .i64 0, .int .i64 0, .int .i64 0, .int .i64 0, .int .i64 0, .int .i64 0, .int .i64 0, .int .i64 0, .int .i64 0, .int .i64 0, .int .i64 0, .int .i64 0]))]
  bld := []

theorem hU : U.OK Try.prog where
  und := by
    intro p hp
    simp only [U, List.mem_cons, List.not_mem_nil, or_false] at hp
    rcases hp with rfl | rfl | rfl
    · exact Try.underlying3
    · exact Try.underlying30
    · exact Try.underlying31
  fld := by
    intro p hp; cases hp
  sz := by
    intro p hp
    simp only [U, List.mem_cons, List.not_mem_nil, or_false] at hp
    rcases hp with rfl | rfl | rfl
    · exact ⟨Try.prog.types[3]!, by kernel_rfl, by kernel_rfl⟩
    · exact ⟨Try.prog.types[30]!, by kernel_rfl, by kernel_rfl⟩
    · exact ⟨Try.prog.types[31]!, by kernel_rfl, by kernel_rfl⟩
  ti := by
    intro p hp
    simp only [U, List.mem_cons, List.not_mem_nil, or_false] at hp
    rcases hp with rfl | rfl | rfl
    · exact ⟨Try.prog.types[3]!, by kernel_rfl, by kernel_rfl, by kernel_rfl, by kernel_rfl⟩
    · exact ⟨Try.prog.types[30]!, by kernel_rfl, by kernel_rfl, by kernel_rfl, by kernel_rfl⟩
    · exact ⟨Try.prog.types[31]!, by kernel_rfl, by kernel_rfl, by kernel_rfl, by kernel_rfl⟩
  bld := by
    intro p hp; cases hp
  mixed := by kernel_rfl

theorem n_Rest_spec (xs : List Int) (x : Int) (hX : Dg xs x) (hlx : xs.length = 32) :
    CallsS Try.prog 43 [.agg (nums .i64 xs).toArray] [] (fun r D => ∃ (zs : List Int), r = .agg (nums .i64 zs).toArray ∧ D = [] ∧ (Dg zs (x % P)) ∧ (zs.length = 32)) := by
  refine CallsS.enter hU Try.f43 _ [.cell 2 31] 13 Try.func43 rfl (by decide) rfl rfl (by kernel_rfl) fun w0 W => ?_
  refine RunC.seq ?_
  refine RunC.region ?_
  refine RunR.step (dst := some 1) (op := .box 31 (.tmp 0)) (by kernel_rfl) (Step.box (.agg (nums .i64 xs).toArray) (by kernel_rfl) (by kernel_rfl) (fun b1 => ?_))
  refine RunR.step (dst := some 2) (op := .alloc 31) (by kernel_rfl) (Step.alloc hU 32 256 (.agg #[.int .i64 0, .int .i64 0, .int .i64 0, .int .i64 0, .int .i64 0, .int .i64 0, .int .i64 0, .int .i64 0, .int .i64 0, .int .i64 0, .int .i64 0, .int .i64 0, .int .i64 0, .int .i64 0, .int .i64 0, .int .i64 0, .int .i64 0, .int .i64 0, .int .i64 0, .int .i64 0, .int .i64 0, .int .i64 0, .int .i64 0, .int .i64 0, .int .i64 0, .int .i64 0, .int .i64 0, .int .i64 0, .int .i64 0, .int .i64 0, .int .i64 0, .int .i64 0]) rfl (by kernel_rfl) (fun b2 => ?_))
  have hl3 : (List.replicate 32 (0 : Int)).length = 32 := List.length_replicate
  refine RunR.done (by kernel_rfl) ?_
  refine kseq_n ?_
  refine RunC.seq ?_
  refine RunC.region ?_
  refine RunR.step (dst := some 4) (op := .call { callee := .value (.func 54), args := #[], argTypes := #[] }) (by kernel_rfl) (Step.call 54 [] (by kernel_rfl) (by kernel_rfl) [] [] [blk b2 31 (nums .i64 (List.replicate 32 (0 : Int))), blk b1 31 (nums .i64 xs)] (n_prime_spec) [] (by kernel_rfl) (Lend.nil _) ?_)
  rintro _ _ ⟨zs4, rfl, rfl, hp5, hp6⟩
  refine RunR.step (dst := some 3) (op := .alloc 31) (by kernel_rfl) (Step.alloc hU 32 256 (.agg #[.int .i64 0, .int .i64 0, .int .i64 0, .int .i64 0, .int .i64 0, .int .i64 0, .int .i64 0, .int .i64 0, .int .i64 0, .int .i64 0, .int .i64 0, .int .i64 0, .int .i64 0, .int .i64 0, .int .i64 0, .int .i64 0, .int .i64 0, .int .i64 0, .int .i64 0, .int .i64 0, .int .i64 0, .int .i64 0, .int .i64 0, .int .i64 0, .int .i64 0, .int .i64 0, .int .i64 0, .int .i64 0, .int .i64 0, .int .i64 0, .int .i64 0, .int .i64 0]) rfl (by kernel_rfl) (fun b7 => ?_))
  have hl8 : (List.replicate 32 (0 : Int)).length = 32 := List.length_replicate
  refine RunR.step (dst := none) (op := .store 31 (.tmp 3) (.tmp 4)) (by kernel_rfl) (Step.store_arr hU 0 b7 31 32 .i64 (List.replicate 32 (0 : Int)) zs4 (by kernel_rfl) (by kernel_rfl) (by kernel_rfl) (by kernel_rfl) (by first | rfl | omega | (simp; done)) (by first | rfl | omega | (simp; done)) ?_)
  refine RunR.done (by kernel_rfl) ?_
  refine kseq_n ?_
  refine RunC.seq ?_
  refine RunC.block ?_
  refine RunC.env [1, 2, 3] [(1, .pointer (some ⟨b1, 0, none⟩)), (2, .pointer (some ⟨b2, 0, none⟩)), (3, .pointer (some ⟨b7, 0, none⟩))] (by kernel_rfl) ?_
  refine RunC.only [2, 0, 0] [blk b1 31 (nums .i64 xs), blk b7 31 (nums .i64 zs4), blk b2 31 (nums .i64 (List.replicate 32 (0 : Int)))] (by kernel_rfl) ?_
  refine RunC.loop (σ := Nat) (fun n_ t_ D_ => ∃ (os : List Int) (z : Int), (Dg os z) ∧ (z % P = x % P) ∧ (os.length = 32) ∧ n_ = (z.toNat : Nat) ∧ t_ = [(1, .pointer (some ⟨b1, 0, none⟩)), (2, .pointer (some ⟨b2, 0, none⟩)), (3, .pointer (some ⟨b7, 0, none⟩))] ∧ D_ = [blk b1 31 (nums .i64 os), blk b7 31 (nums .i64 zs4), blk b2 31 (nums .i64 (List.replicate 32 (0 : Int)))]) id _ ⟨xs, x, (by assumption), (by first | assumption | omega | (simp only [List.length_append, List.length_cons, List.length_nil, List.length_set, List.length_replicate, List.length_take, List.length_drop]; omega) | (simp only [fits] at *; omega) | (simp only [List.length_append, List.length_cons, List.length_nil, List.length_set, List.length_replicate, List.length_take, List.length_drop] at *; omega) | (simp; done) | decide), (by first | rfl | assumption | omega | (simp only [List.length_append, List.length_cons, List.length_nil, List.length_set, List.length_replicate, List.length_take, List.length_drop]; omega) | (simp; done)), rfl, rfl, rfl⟩ ?_
  rintro n_ _ _ ⟨os, z, hO, hzm, hol, rfl, rfl, rfl⟩
  refine RunC.seq ?_
  refine RunC.seq ?_
  refine RunC.region ?_
  refine RunR.step (dst := some 5) (op := .load 31 (.tmp 1)) (by kernel_rfl) (Step.load_arr hU 0 b1 31 32 .i64 os (by kernel_rfl) (by kernel_rfl) (by kernel_rfl) (by kernel_rfl) (by first | rfl | omega | (simp; done)) (by kernel_rfl) ?_)
  refine RunR.step (dst := some 6) (op := .load 31 (.tmp 3)) (by kernel_rfl) (Step.load_arr hU 1 b7 31 32 .i64 zs4 (by kernel_rfl) (by kernel_rfl) (by kernel_rfl) (by kernel_rfl) (by first | rfl | omega | (simp; done)) (by kernel_rfl) ?_)
  refine RunR.step (dst := some 7) (op := .call { callee := .value (.func 60), args := #[.tmp 5, .tmp 6], argTypes := #[31, 31] }) (by kernel_rfl) (Step.call 60 [.agg (nums .i64 os).toArray, .agg (nums .i64 zs4).toArray] (by kernel_rfl) (by kernel_rfl) [] [] [blk b1 31 (nums .i64 os), blk b7 31 (nums .i64 zs4), blk b2 31 (nums .i64 (List.replicate 32 (0 : Int)))] (n_less_spec os z zs4 P (by assumption) (by first | rfl | assumption | omega | (simp only [List.length_append, List.length_cons, List.length_nil, List.length_set, List.length_replicate, List.length_take, List.length_drop]; omega) | (simp; done)) (by assumption) (by first | rfl | assumption | omega | (simp only [List.length_append, List.length_cons, List.length_nil, List.length_set, List.length_replicate, List.length_take, List.length_drop]; omega) | (simp; done))) [] (by kernel_rfl) (Lend.nil _) ?_)
  rintro _ _ ⟨rfl, rfl⟩
  refine RunR.sil hU [] 1 4 [1, 2, 3, 8] [(1, .pointer (some ⟨b1, 0, none⟩)), (2, .pointer (some ⟨b2, 0, none⟩)), (3, .pointer (some ⟨b7, 0, none⟩)), (8, .bool (!decide (z < P)))] ((True) ∧ True) rfl (by kernel_rfl) ⟨trivial, trivial⟩ ?_
  refine RunR.done (by kernel_rfl) ?_
  refine kseq_n ?_
  refine RunC.condn (z < P) (by kernel_rfl) (fun h9 => ?_) (fun h9 => ?_)
  · skip
    refine RunC.skip ?_
    refine kseq_n ?_
    refine RunC.block ?_
    refine RunC.region ?_
    refine RunR.step (dst := some 9) (op := .load 31 (.tmp 1)) (by kernel_rfl) (Step.load_arr hU 0 b1 31 32 .i64 os (by kernel_rfl) (by kernel_rfl) (by kernel_rfl) (by kernel_rfl) (by first | rfl | omega | (simp; done)) (by kernel_rfl) ?_)
    refine RunR.step (dst := some 10) (op := .load 31 (.tmp 3)) (by kernel_rfl) (Step.load_arr hU 1 b7 31 32 .i64 zs4 (by kernel_rfl) (by kernel_rfl) (by kernel_rfl) (by kernel_rfl) (by first | rfl | omega | (simp; done)) (by kernel_rfl) ?_)
    refine RunR.step (dst := some 11) (op := .call { callee := .value (.func 53), args := #[.tmp 9, .tmp 10], argTypes := #[31, 31] }) (by kernel_rfl) (Step.call 53 [.agg (nums .i64 os).toArray, .agg (nums .i64 zs4).toArray] (by kernel_rfl) (by kernel_rfl) [] [] [blk b1 31 (nums .i64 os), blk b7 31 (nums .i64 zs4), blk b2 31 (nums .i64 (List.replicate 32 (0 : Int)))] (n_minus_spec os z zs4 P (by assumption) (by first | rfl | assumption | omega | (simp only [List.length_append, List.length_cons, List.length_nil, List.length_set, List.length_replicate, List.length_take, List.length_drop]; omega) | (simp; done)) (by assumption) (by first | rfl | assumption | omega | (simp only [List.length_append, List.length_cons, List.length_nil, List.length_set, List.length_replicate, List.length_take, List.length_drop]; omega) | (simp; done)) (by omega)) [] (by kernel_rfl) (Lend.nil _) ?_)
    rintro _ _ ⟨zs10, rfl, rfl, hp11, hp12⟩
    refine RunR.step (dst := none) (op := .store 31 (.tmp 1) (.tmp 11)) (by kernel_rfl) (Step.store_arr hU 0 b1 31 32 .i64 os zs10 (by kernel_rfl) (by kernel_rfl) (by kernel_rfl) (by kernel_rfl) (by first | rfl | omega | (simp; done)) (by first | rfl | omega | (simp; done)) ?_)
    refine RunR.done (by kernel_rfl) ?_
    refine kblock_n ?_
    refine kloop_n _ [1, 2, 3] [0, 0, 0] [(1, .pointer (some ⟨b1, 0, none⟩)), (2, .pointer (some ⟨b2, 0, none⟩)), (3, .pointer (some ⟨b7, 0, none⟩))] [blk b1 31 (nums .i64 zs10), blk b7 31 (nums .i64 zs4), blk b2 31 (nums .i64 (List.replicate 32 (0 : Int)))] (by kernel_rfl) (by kernel_rfl) ?_ ⟨zs10, (z - P), (by assumption), (by rw [Int.sub_emod, Int.emod_self, Int.sub_zero, Int.emod_emod]; exact hzm), (by assumption), rfl, (by first | rfl | simp only [List.length_set]), (by first | rfl | simp only [List.length_set])⟩
    show ((z - P).toNat : Nat) < (z.toNat : Nat)
    have := hO.lo; simp only [P] at *; omega
  · skip
    refine RunC.exit ?_
    refine kseq_e ?_
    refine kloop_e ?_
    refine kblock_e ?_
    refine kseq_n ?_
    refine RunC.seq ?_
    refine RunC.region ?_
    refine RunR.step (dst := some 12) (op := .load 31 (.tmp 1)) (by kernel_rfl) (Step.load_arr hU 0 b1 31 32 .i64 os (by kernel_rfl) (by kernel_rfl) (by kernel_rfl) (by kernel_rfl) (by first | rfl | omega | (simp; done)) (by kernel_rfl) ?_)
    refine RunR.step (dst := none) (op := .store 31 (.tmp 2) (.tmp 12)) (by kernel_rfl) (Step.store_arr hU 2 b2 31 32 .i64 (List.replicate 32 (0 : Int)) os (by kernel_rfl) (by kernel_rfl) (by kernel_rfl) (by kernel_rfl) (by first | rfl | omega | (simp; done)) (by first | rfl | omega | (simp; done)) ?_)
    refine RunR.done (by kernel_rfl) ?_
    refine kseq_n ?_
    refine RunC.ret ?_
    refine kret_r [.agg (nums .i64 os).toArray] [] [] ⟨⟨0, b2, 0, 31, nums .i64 os, rfl, rfl, (loadv_arr (U := U) (n := 32) (by kernel_rfl) (by kernel_rfl) (by first | rfl | omega | assumption | (simp; done)))⟩, trivial⟩ (by kernel_rfl) rfl ⟨os, rfl, rfl, (by have hv := hO; rw [show z = x % P by rw [← hzm]; exact (Int.emod_eq_of_lt hO.lo (by omega)).symm] at hv; exact hv), (by assumption)⟩
end Go.Proofs.Ytbnjcfhnbjaoiaa.Y3
