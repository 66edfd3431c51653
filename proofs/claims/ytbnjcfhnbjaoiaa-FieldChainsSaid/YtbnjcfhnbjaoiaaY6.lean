/- What these functions compute: a contract for each, walked through its code. -/
import Derived.Test.YtbnjcfhnbjaoiaaEPure
import Derived.Test.YtbnjcfhnbjaoiaaProg
import Derived.Test.YtbnjcfhnbjaoiaaX1
import Derived.Test.YtbnjcfhnbjaoiaaX2
import Derived.Test.YtbnjcfhnbjaoiaaX3
import Derived.Test.YtbnjcfhnbjaoiaaX4
import Derived.Test.YtbnjcfhnbjaoiaaX5
import Derived.Test.YtbnjcfhnbjaoiaaX6
import Derived.Test.YtbnjcfhnbjaoiaaX7
import Derived.Test.YtbnjcfhnbjaoiaaX8
import Derived.Test.YtbnjcfhnbjaoiaaX9
import Derived.Test.YtbnjcfhnbjaoiaaY1
import Derived.Test.YtbnjcfhnbjaoiaaY2
import Derived.Test.YtbnjcfhnbjaoiaaY3
import Derived.Test.YtbnjcfhnbjaoiaaY4
import Derived.Test.YtbnjcfhnbjaoiaaY5
namespace Go.Proofs.Ytbnjcfhnbjaoiaa.Y6
open Go Go.Proofs.Ytbnjcfhnbjaoiaa.SL Go.Proofs.Ytbnjcfhnbjaoiaa.SL.W Go.Proofs.Ytbnjcfhnbjaoiaa.SL.F Go.Proofs.Ytbnjcfhnbjaoiaa.SL.N Go.Proofs.Ytbnjcfhnbjaoiaa.SL.E Go.Proofs.Ytbnjcfhnbjaoiaa.X1 Go.Proofs.Ytbnjcfhnbjaoiaa.X2 Go.Proofs.Ytbnjcfhnbjaoiaa.X3 Go.Proofs.Ytbnjcfhnbjaoiaa.X4 Go.Proofs.Ytbnjcfhnbjaoiaa.X5 Go.Proofs.Ytbnjcfhnbjaoiaa.X6 Go.Proofs.Ytbnjcfhnbjaoiaa.X7 Go.Proofs.Ytbnjcfhnbjaoiaa.X8 Go.Proofs.Ytbnjcfhnbjaoiaa.X9 Go.Proofs.Ytbnjcfhnbjaoiaa.Y1 Go.Proofs.Ytbnjcfhnbjaoiaa.Y2 Go.Proofs.Ytbnjcfhnbjaoiaa.Y3 Go.Proofs.Ytbnjcfhnbjaoiaa.Y4 Go.Proofs.Ytbnjcfhnbjaoiaa.Y5
set_option linter.unusedVariables false
set_option linter.unusedSimpArgs false
set_option maxRecDepth 100000
set_option maxHeartbeats 40000000
def U : Tab where
  und := [(3, .int .i64), (30, .array 32 3), (31, .array 32 3)]
  fld := []
  sz := [(3, 1), (30, 32), (31, 32)]
  ti := [(3, (1, 8, .int .i64 0)), (30, (32, 256, .agg #[.int .i64 0, .int .i64 0, .int .i64 0, .int .i64 0, .int .i64 0, .int .i64 0, .int .i64 0, .int .i64 0, .int .i64 0, .int .i64 0, .int .i64 0, .int .i64 0, .int .i64 0, .int .i64 0, .int .i64 0, .int .i64 0, .int .i64 0, .int .i64 0, .int .i64 0, .int .i64 0, .int .i64 0, .int .i64 0, .int .i64 0, .int .i64 0, .int .i64 0, .int .i64 0, .int .i64 0, .int .i64 0, .int .i64 0, .int .i64 0, .int .i64 0, .int .i64 0])), (31, (32, 256, .agg #[.int .i64 0, .int .i64 0, .int .i64 0, .int .i64 0, .int .i64 0, .int .i64 0, .int .i64 0, .int .i64 0, .int .i64 0, .int .i64 0, .int .i64 0, .int .i64 0, .int .i64 0, .int .i64 0, .int .i64 0, .int .i64 0, .int .i64 0, .int .i64 0, .int .i64 0, .int .i64 0, .int .i64 0, .int .i64 0, .int .i64 0, .int .i64 0, .int .i64 0, .int .i64 0, .int .i64 0, .int .i64 0, .int .i64 0, .int .i64 0, .int .i64 0, .int .i64 0]))]
  bld := []

theorem hU : U.OK Try.prog where
  und := by
    intro p hp
    simp only [U, List.mem_cons, List.not_mem_nil, or_false] at hp
    rcases hp with rfl | rfl | rfl
    · exact Try.underlying3
    · exact Try.underlying30
    · exact Try.underlying31
  fld := by
    intro p hp; cases hp
  sz := by
    intro p hp
    simp only [U, List.mem_cons, List.not_mem_nil, or_false] at hp
    rcases hp with rfl | rfl | rfl
    · exact ⟨Try.prog.types[3]!, by kernel_rfl, by kernel_rfl⟩
    · exact ⟨Try.prog.types[30]!, by kernel_rfl, by kernel_rfl⟩
    · exact ⟨Try.prog.types[31]!, by kernel_rfl, by kernel_rfl⟩
  ti := by
    intro p hp
    simp only [U, List.mem_cons, List.not_mem_nil, or_false] at hp
    rcases hp with rfl | rfl | rfl
    · exact ⟨Try.prog.types[3]!, by kernel_rfl, by kernel_rfl, by kernel_rfl, by kernel_rfl⟩
    · exact ⟨Try.prog.types[30]!, by kernel_rfl, by kernel_rfl, by kernel_rfl, by kernel_rfl⟩
    · exact ⟨Try.prog.types[31]!, by kernel_rfl, by kernel_rfl, by kernel_rfl, by kernel_rfl⟩
  bld := by
    intro p hp; cases hp
  mixed := by kernel_rfl

theorem n_Sub_spec (xs : List Int) (x : Int) (ys : List Int) (y : Int) (hX : Dg xs x) (hlx : xs.length = 32) (hY : Dg ys y) (hly : ys.length = 32) (hyP : y ≤ P) :
    CallsS Try.prog 32 [.agg (nums .i64 xs).toArray, .agg (nums .i64 ys).toArray] [] (fun r D => ∃ (zs : List Int), r = .agg (nums .i64 zs).toArray ∧ D = [] ∧ (Dg zs ((x - y) % P)) ∧ (zs.length = 32)) := by
  refine CallsS.enter hU Try.f32 _ [.cell 4 31] 10 Try.func32 rfl (by decide) rfl rfl (by kernel_rfl) fun w0 W => ?_
  refine RunC.seq ?_
  refine RunC.region ?_
  refine RunR.step (dst := some 2) (op := .box 31 (.tmp 0)) (by kernel_rfl) (Step.box (.agg (nums .i64 xs).toArray) (by kernel_rfl) (by kernel_rfl) (fun b1 => ?_))
  refine RunR.step (dst := some 3) (op := .box 31 (.tmp 1)) (by kernel_rfl) (Step.box (.agg (nums .i64 ys).toArray) (by kernel_rfl) (by kernel_rfl) (fun b2 => ?_))
  refine RunR.step (dst := some 4) (op := .alloc 31) (by kernel_rfl) (Step.alloc hU 32 256 (.agg #[.int .i64 0, .int .i64 0, .int .i64 0, .int .i64 0, .int .i64 0, .int .i64 0, .int .i64 0, .int .i64 0, .int .i64 0, .int .i64 0, .int .i64 0, .int .i64 0, .int .i64 0, .int .i64 0, .int .i64 0, .int .i64 0, .int .i64 0, .int .i64 0, .int .i64 0, .int .i64 0, .int .i64 0, .int .i64 0, .int .i64 0, .int .i64 0, .int .i64 0, .int .i64 0, .int .i64 0, .int .i64 0, .int .i64 0, .int .i64 0, .int .i64 0, .int .i64 0]) rfl (by kernel_rfl) (fun b3 => ?_))
  have hl4 : (List.replicate 32 (0 : Int)).length = 32 := List.length_replicate
  refine RunR.done (by kernel_rfl) ?_
  refine kseq_n ?_
  refine RunC.seq ?_
  refine RunC.regionU hU 6 [blk b1 31 (nums .i64 xs), blk b2 31 (nums .i64 ys)] [2, 1] [4, 5] (bm 6 0) (by kernel_rfl) (by kernel_rfl) (by kernel_rfl) ?_
  refine RunU.read 0 (bm 6 1) 5 (.load 31 (.tmp 2)) (.agg (nums .i64 xs).toArray) [2, 1] (by kernel_rfl) (Reads.load_arr hU 0 b1 31 32 .i64 xs (by kernel_rfl) (by kernel_rfl) (by kernel_rfl) (by kernel_rfl) (by first | rfl | omega | (simp; done))) (by kernel_rfl) (by kernel_rfl) (by kernel_rfl) (by kernel_rfl) (fun _ _ _ h => h) ?_
  refine RunU.read 2 (bm 6 5) 7 (.load 31 (.tmp 3)) (.agg (nums .i64 ys).toArray) [2, 1] (by kernel_rfl) (Reads.load_arr hU 1 b2 31 32 .i64 ys (by kernel_rfl) (by kernel_rfl) (by kernel_rfl) (by kernel_rfl) (by first | rfl | omega | (simp; done))) (by kernel_rfl) (by kernel_rfl) (by kernel_rfl) (by kernel_rfl) (fun _ _ _ h => h) ?_
  refine RunU.one (dst := some 6) (op := .call { callee := .value (.func 54), args := #[], argTypes := #[] }) 1 (bm 6 7) [2, 1] (by kernel_rfl) (by kernel_rfl) (Step.call 54 [] (by kernel_rfl) (by kernel_rfl) [] [] [blk b3 31 (nums .i64 (List.replicate 32 (0 : Int))), blk b2 31 (nums .i64 ys), blk b1 31 (nums .i64 xs)] (n_prime_spec) [] (by kernel_rfl) (Lend.nil _) ?_)
  rintro _ _ ⟨zs5, rfl, rfl, hp6, hp7⟩
  refine ⟨.inl (by kernel_rfl), ?_⟩
  refine RunU.one (dst := some 8) (op := .call { callee := .value (.func 53), args := #[.tmp 6, .tmp 7], argTypes := #[31, 31] }) 3 (bm 6 15) [2, 1] (by kernel_rfl) (by kernel_rfl) (Step.call 53 [.agg (nums .i64 zs5).toArray, .agg (nums .i64 ys).toArray] (by kernel_rfl) (by kernel_rfl) [] [] [blk b3 31 (nums .i64 (List.replicate 32 (0 : Int))), blk b2 31 (nums .i64 ys), blk b1 31 (nums .i64 xs)] (n_minus_spec zs5 P ys y (by assumption) (by first | rfl | assumption | omega | (simp only [List.length_append, List.length_cons, List.length_nil, List.length_set, List.length_replicate, List.length_take, List.length_drop]; omega) | (simp; done)) (by assumption) (by first | rfl | assumption | omega | (simp only [List.length_append, List.length_cons, List.length_nil, List.length_set, List.length_replicate, List.length_take, List.length_drop]; omega) | (simp; done)) (by assumption)) [] (by kernel_rfl) (Lend.nil _) ?_)
  rintro _ _ ⟨zs8, rfl, rfl, hp9, hp10⟩
  refine ⟨.inl (by kernel_rfl), ?_⟩
  refine RunU.one (dst := some 9) (op := .call { callee := .value (.func 30), args := #[.tmp 5, .tmp 8], argTypes := #[31, 31] }) 4 (bm 6 31) [] (by kernel_rfl) (by kernel_rfl) (Step.call 30 [.agg (nums .i64 xs).toArray, .agg (nums .i64 zs8).toArray] (by kernel_rfl) (by kernel_rfl) [] [] [blk b3 31 (nums .i64 (List.replicate 32 (0 : Int))), blk b2 31 (nums .i64 ys), blk b1 31 (nums .i64 xs)] (n_Add_spec xs x zs8 (P - y) (by assumption) (by first | rfl | assumption | omega | (simp only [List.length_append, List.length_cons, List.length_nil, List.length_set, List.length_replicate, List.length_take, List.length_drop]; omega) | (simp; done)) (by assumption) (by first | rfl | assumption | omega | (simp only [List.length_append, List.length_cons, List.length_nil, List.length_set, List.length_replicate, List.length_take, List.length_drop]; omega) | (simp; done))) [] (by kernel_rfl) (Lend.nil _) ?_)
  rintro _ _ ⟨zs11, rfl, rfl, hp12, hp13⟩
  refine ⟨.inr (by kernel_rfl), ?_⟩
  refine RunU.one (dst := none) (op := .store 31 (.tmp 4) (.tmp 9)) 5 (bm 6 63) [] (by kernel_rfl) (by kernel_rfl) (Step.store_arr hU 0 b3 31 32 .i64 (List.replicate 32 (0 : Int)) zs11 (by kernel_rfl) (by kernel_rfl) (by kernel_rfl) (by kernel_rfl) (by first | rfl | omega | (simp; done)) (by first | rfl | omega | (simp; done)) ?_)
  refine ⟨.inr (by kernel_rfl), ?_⟩
  refine RunU.env [4] [(4, .pointer (some ⟨b3, 0, none⟩))] (by kernel_rfl) ?_
  refine RunU.done (by kernel_rfl) ?_
  refine kseq_n ?_
  refine RunC.ret ?_
  refine kret_r [.agg (nums .i64 zs11).toArray] [] [] ⟨⟨0, b3, 0, 31, nums .i64 zs11, rfl, rfl, (loadv_arr (U := U) (n := 32) (by kernel_rfl) (by kernel_rfl) (by first | rfl | omega | assumption | (simp; done)))⟩, trivial⟩ (by kernel_rfl) rfl ⟨zs11, rfl, rfl, (by first | assumption | (rw [show (x - y) % P = (x + (P - y)) % P by rw [show x + (P - y) = (x - y) + P by omega, Int.add_emod_right]]; assumption)), (by assumption)⟩
end Go.Proofs.Ytbnjcfhnbjaoiaa.Y6
