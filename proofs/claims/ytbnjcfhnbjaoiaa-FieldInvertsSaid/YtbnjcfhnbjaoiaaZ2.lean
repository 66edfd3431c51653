/- What these functions compute: a contract for each, walked through its code. -/
import Derived.Test.YtbnjcfhnbjaoiaaIPure
import Derived.Test.YtbnjcfhnbjaoiaaProg
import Derived.Test.YtbnjcfhnbjaoiaaX1
import Derived.Test.YtbnjcfhnbjaoiaaX2
import Derived.Test.YtbnjcfhnbjaoiaaX4
import Derived.Test.YtbnjcfhnbjaoiaaX6
import Derived.Test.YtbnjcfhnbjaoiaaX7
import Derived.Test.YtbnjcfhnbjaoiaaX8
import Derived.Test.YtbnjcfhnbjaoiaaX9
import Derived.Test.YtbnjcfhnbjaoiaaY1
import Derived.Test.YtbnjcfhnbjaoiaaY2
import Derived.Test.YtbnjcfhnbjaoiaaY3
import Derived.Test.YtbnjcfhnbjaoiaaY4
import Derived.Test.YtbnjcfhnbjaoiaaY5
import Derived.Test.YtbnjcfhnbjaoiaaY7
import Derived.Test.YtbnjcfhnbjaoiaaY8
import Derived.Test.YtbnjcfhnbjaoiaaZ1
namespace Go.Proofs.Ytbnjcfhnbjaoiaa.Z2
open Go Go.Proofs.Ytbnjcfhnbjaoiaa.SL Go.Proofs.Ytbnjcfhnbjaoiaa.SL.W Go.Proofs.Ytbnjcfhnbjaoiaa.SL.F Go.Proofs.Ytbnjcfhnbjaoiaa.SL.N Go.Proofs.Ytbnjcfhnbjaoiaa.SL.E Go.Proofs.Ytbnjcfhnbjaoiaa.X1 Go.Proofs.Ytbnjcfhnbjaoiaa.X2 Go.Proofs.Ytbnjcfhnbjaoiaa.X4 Go.Proofs.Ytbnjcfhnbjaoiaa.X6 Go.Proofs.Ytbnjcfhnbjaoiaa.X7 Go.Proofs.Ytbnjcfhnbjaoiaa.X8 Go.Proofs.Ytbnjcfhnbjaoiaa.X9 Go.Proofs.Ytbnjcfhnbjaoiaa.Y1 Go.Proofs.Ytbnjcfhnbjaoiaa.Y2 Go.Proofs.Ytbnjcfhnbjaoiaa.Y3 Go.Proofs.Ytbnjcfhnbjaoiaa.Y4 Go.Proofs.Ytbnjcfhnbjaoiaa.Y5 Go.Proofs.Ytbnjcfhnbjaoiaa.Y7 Go.Proofs.Ytbnjcfhnbjaoiaa.Y8 Go.Proofs.Ytbnjcfhnbjaoiaa.Z1
set_option linter.unusedVariables false
set_option linter.unusedSimpArgs false
set_option maxRecDepth 100000
set_option maxHeartbeats 40000000
def U : Tab where
  und := [(3, .int .i64), (30, .array 32 3), (31, .array 32 3), (85, .int .u64)]
  fld := []
  sz := [(3, 1), (30, 32), (31, 32), (85, 1)]
  ti := [(3, (1, 8, .int .i64 0)), (30, (32, 256, .agg #[.int .i64 0, .int .i64 0, .int .i64 0, .int .i64 0, .int .i64 0, .int .i64 0, .int .i64 0, .int .i64 0, .int .i64 0, .int .i64 0, .int .i64 0, .int .i64 0, .int .i64 0, .int .i64 0, .int .i64 0, .int .i64 0, .int .i64 0, .int .i64 0, .int .i64 0, .int .i64 0, .int .i64 0, .int .i64 0, .int .i64 0, .int .i64 0, .int .i64 0, .int .i64 0, .int .i64 0, .int .i64 0, .int .i64 0, .int .i64 0, .int .i64 0, .int .i64 0])), (31, (32, 256, .agg #[.int .i64 0, .int .i64 0, .int .i64 0, .int .i64 0, .int .i64 0, .int .i64 0, .int .i64 0, .int .i64 0, .int .i64 0, .int .i64 0, .int .i64 0, .int .i64 0, .int .i64 0, .int .i64 0, .int .i64 0, .int .i64 0, .int .i64 0, .int .i64 0, .int .i64 0, .int .i64 0, .int .i64 0, .int .i64 0, .int .i64 0, .int .i64 0, .int .i64 0, .int .i64 0, .int .i64 0, .int .i64 0, .int .i64 0, .int .i64 0, .int .i64 0, .int .i64 0])), (85, (1, 8, .int .u64 0))]
  bld := []

theorem hU : U.OK Try.prog where
  und := by
    intro p hp
    simp only [U, List.mem_cons, List.not_mem_nil, or_false] at hp
    rcases hp with rfl | rfl | rfl | rfl
    · exact Try.underlying3
    · exact Try.underlying30
    · exact Try.underlying31
    · exact Try.underlying85
  fld := by
    intro p hp; cases hp
  sz := by
    intro p hp
    simp only [U, List.mem_cons, List.not_mem_nil, or_false] at hp
    rcases hp with rfl | rfl | rfl | rfl
    · exact ⟨Try.prog.types[3]!, by kernel_rfl, by kernel_rfl⟩
    · exact ⟨Try.prog.types[30]!, by kernel_rfl, by kernel_rfl⟩
    · exact ⟨Try.prog.types[31]!, by kernel_rfl, by kernel_rfl⟩
    · exact ⟨Try.prog.types[85]!, by kernel_rfl, by kernel_rfl⟩
  ti := by
    intro p hp
    simp only [U, List.mem_cons, List.not_mem_nil, or_false] at hp
    rcases hp with rfl | rfl | rfl | rfl
    · exact ⟨Try.prog.types[3]!, by kernel_rfl, by kernel_rfl, by kernel_rfl, by kernel_rfl⟩
    · exact ⟨Try.prog.types[30]!, by kernel_rfl, by kernel_rfl, by kernel_rfl, by kernel_rfl⟩
    · exact ⟨Try.prog.types[31]!, by kernel_rfl, by kernel_rfl, by kernel_rfl, by kernel_rfl⟩
    · exact ⟨Try.prog.types[85]!, by kernel_rfl, by kernel_rfl, by kernel_rfl, by kernel_rfl⟩
  bld := by
    intro p hp; cases hp
  mixed := by kernel_rfl

theorem n_Invert_spec (xs : List Int) (x : Int) (hX : Dg xs x) (hlx : xs.length = 32) (hxP : x < P) :
    CallsS Try.prog 39 [.agg (nums .i64 xs).toArray] [] (fun r D => ∃ (zs : List Int), r = .agg (nums .i64 zs).toArray ∧ D = [] ∧ (Dg zs (pw x EN)) ∧ (zs.length = 32)) := by
  refine CallsS.enter hU Try.f39 _ [.cell 2 31] 31 Try.func39 rfl (by decide) rfl rfl (by kernel_rfl) fun w0 W => ?_
  refine RunC.seq ?_
  refine RunC.region ?_
  refine RunR.step (dst := some 1) (op := .box 31 (.tmp 0)) (by kernel_rfl) (Step.box (.agg (nums .i64 xs).toArray) (by kernel_rfl) (by kernel_rfl) (fun b1 => ?_))
  refine RunR.step (dst := some 2) (op := .alloc 31) (by kernel_rfl) (Step.alloc hU 32 256 (.agg #[.int .i64 0, .int .i64 0, .int .i64 0, .int .i64 0, .int .i64 0, .int .i64 0, .int .i64 0, .int .i64 0, .int .i64 0, .int .i64 0, .int .i64 0, .int .i64 0, .int .i64 0, .int .i64 0, .int .i64 0, .int .i64 0, .int .i64 0, .int .i64 0, .int .i64 0, .int .i64 0, .int .i64 0, .int .i64 0, .int .i64 0, .int .i64 0, .int .i64 0, .int .i64 0, .int .i64 0, .int .i64 0, .int .i64 0, .int .i64 0, .int .i64 0, .int .i64 0]) rfl (by kernel_rfl) (fun b2 => ?_))
  have hl3 : (List.replicate 32 (0 : Int)).length = 32 := List.length_replicate
  refine RunR.done (by kernel_rfl) ?_
  refine kseq_n ?_
  refine RunC.seq ?_
  refine RunC.region ?_
  refine RunR.step (dst := some 6) (op := .call { callee := .value (.func 54), args := #[], argTypes := #[] }) (by kernel_rfl) (Step.call 54 [] (by kernel_rfl) (by kernel_rfl) [] [] [blk b2 31 (nums .i64 (List.replicate 32 (0 : Int))), blk b1 31 (nums .i64 xs)] (n_prime_spec) [] (by kernel_rfl) (Lend.nil _) ?_)
  rintro _ _ ⟨zs4, rfl, rfl, hp5, hp6⟩
  refine RunR.step (dst := some 7) (op := .call { callee := .value (.func 37), args := #[.const (.int .u32 2)], argTypes := #[49] }) (by kernel_rfl) (Step.call 37 [.int .u32 2] (by kernel_rfl) (by kernel_rfl) [] [] [blk b2 31 (nums .i64 (List.replicate 32 (0 : Int))), blk b1 31 (nums .i64 xs)] (n_Small_spec 2 (by first | assumption | exact fits_wrap _ _ | exact fits_bits2 _ _ _ _ | (refine ⟨?_, ?_⟩ <;> omega))) [] (by kernel_rfl) (Lend.nil _) ?_)
  rintro _ _ ⟨zs7, rfl, rfl, hp8, hp9⟩
  refine RunR.step (dst := some 8) (op := .call { callee := .value (.func 53), args := #[.tmp 6, .tmp 7], argTypes := #[31, 31] }) (by kernel_rfl) (Step.call 53 [.agg (nums .i64 zs4).toArray, .agg (nums .i64 zs7).toArray] (by kernel_rfl) (by kernel_rfl) [] [] [blk b2 31 (nums .i64 (List.replicate 32 (0 : Int))), blk b1 31 (nums .i64 xs)] (n_minus_spec zs4 P zs7 2 (by assumption) (by first | rfl | assumption | omega | (simp only [List.length_append, List.length_cons, List.length_nil, List.length_set, List.length_replicate, List.length_take, List.length_drop]; omega) | (simp; done)) (by assumption) (by first | rfl | assumption | omega | (simp only [List.length_append, List.length_cons, List.length_nil, List.length_set, List.length_replicate, List.length_take, List.length_drop]; omega) | (simp; done)) (by simp only [P]; decide)) [] (by kernel_rfl) (Lend.nil _) ?_)
  rintro _ _ ⟨zs10, rfl, rfl, hp11, hp12⟩
  refine RunR.step (dst := some 3) (op := .alloc 31) (by kernel_rfl) (Step.alloc hU 32 256 (.agg #[.int .i64 0, .int .i64 0, .int .i64 0, .int .i64 0, .int .i64 0, .int .i64 0, .int .i64 0, .int .i64 0, .int .i64 0, .int .i64 0, .int .i64 0, .int .i64 0, .int .i64 0, .int .i64 0, .int .i64 0, .int .i64 0, .int .i64 0, .int .i64 0, .int .i64 0, .int .i64 0, .int .i64 0, .int .i64 0, .int .i64 0, .int .i64 0, .int .i64 0, .int .i64 0, .int .i64 0, .int .i64 0, .int .i64 0, .int .i64 0, .int .i64 0, .int .i64 0]) rfl (by kernel_rfl) (fun b13 => ?_))
  have hl14 : (List.replicate 32 (0 : Int)).length = 32 := List.length_replicate
  refine RunR.step (dst := none) (op := .store 31 (.tmp 3) (.tmp 8)) (by kernel_rfl) (Step.store_arr hU 0 b13 31 32 .i64 (List.replicate 32 (0 : Int)) zs10 (by kernel_rfl) (by kernel_rfl) (by kernel_rfl) (by kernel_rfl) (by first | rfl | omega | (simp; done)) (by first | rfl | omega | (simp; done)) ?_)
  refine RunR.done (by kernel_rfl) ?_
  refine kseq_n ?_
  refine RunC.seq ?_
  refine RunC.region ?_
  refine RunR.step (dst := some 9) (op := .call { callee := .value (.func 37), args := #[.const (.int .u32 1)], argTypes := #[49] }) (by kernel_rfl) (Step.call 37 [.int .u32 1] (by kernel_rfl) (by kernel_rfl) [] [] [blk b13 31 (nums .i64 zs10), blk b2 31 (nums .i64 (List.replicate 32 (0 : Int))), blk b1 31 (nums .i64 xs)] (n_Small_spec 1 (by first | assumption | exact fits_wrap _ _ | exact fits_bits2 _ _ _ _ | (refine ⟨?_, ?_⟩ <;> omega))) [] (by kernel_rfl) (Lend.nil _) ?_)
  rintro _ _ ⟨zs15, rfl, rfl, hp16, hp17⟩
  refine RunR.step (dst := some 4) (op := .alloc 31) (by kernel_rfl) (Step.alloc hU 32 256 (.agg #[.int .i64 0, .int .i64 0, .int .i64 0, .int .i64 0, .int .i64 0, .int .i64 0, .int .i64 0, .int .i64 0, .int .i64 0, .int .i64 0, .int .i64 0, .int .i64 0, .int .i64 0, .int .i64 0, .int .i64 0, .int .i64 0, .int .i64 0, .int .i64 0, .int .i64 0, .int .i64 0, .int .i64 0, .int .i64 0, .int .i64 0, .int .i64 0, .int .i64 0, .int .i64 0, .int .i64 0, .int .i64 0, .int .i64 0, .int .i64 0, .int .i64 0, .int .i64 0]) rfl (by kernel_rfl) (fun b18 => ?_))
  have hl19 : (List.replicate 32 (0 : Int)).length = 32 := List.length_replicate
  refine RunR.step (dst := none) (op := .store 31 (.tmp 4) (.tmp 9)) (by kernel_rfl) (Step.store_arr hU 0 b18 31 32 .i64 (List.replicate 32 (0 : Int)) zs15 (by kernel_rfl) (by kernel_rfl) (by kernel_rfl) (by kernel_rfl) (by first | rfl | omega | (simp; done)) (by first | rfl | omega | (simp; done)) ?_)
  refine RunR.done (by kernel_rfl) ?_
  refine kseq_n ?_
  refine RunC.seq ?_
  refine RunC.seq ?_
  refine RunC.region ?_
  refine RunR.sil hU [] 1 1 [1, 2, 3, 4, 5] [(1, .pointer (some ⟨b1, 0, none⟩)), (2, .pointer (some ⟨b2, 0, none⟩)), (3, .pointer (some ⟨b13, 0, none⟩)), (4, .pointer (some ⟨b18, 0, none⟩)), (5, .int .i64 254)] ((True) ∧ True) rfl (by kernel_rfl) ⟨trivial, trivial⟩ ?_
  refine RunR.done (by kernel_rfl) ?_
  refine kseq_n ?_
  refine RunC.block ?_
  have hes : zs10 = bitsE := (hp11).is.trans (by decide +kernel)
  refine RunC.env [1, 2, 3, 4, 5] [(1, .pointer (some ⟨b1, 0, none⟩)), (2, .pointer (some ⟨b2, 0, none⟩)), (3, .pointer (some ⟨b13, 0, none⟩)), (4, .pointer (some ⟨b18, 0, none⟩)), (5, .int .i64 254)] (by kernel_rfl) ?_
  refine RunC.only [3, 1, 0, 0] [blk b1 31 (nums .i64 xs), blk b13 31 (nums .i64 zs10), blk b18 31 (nums .i64 zs15), blk b2 31 (nums .i64 (List.replicate 32 (0 : Int)))] (by kernel_rfl) ?_
  refine RunC.loop (σ := Nat) (fun n_ t_ D_ => ∃ (i : Int) (os : List Int), (-1 ≤ i) ∧ (i ≤ 254) ∧ (Dg os (pw x (EN / 2 ^ (i + 1).toNat))) ∧ (os.length = 32) ∧ (In .u8 zs10) ∧ n_ = ((i + 1).toNat : Nat) ∧ t_ = [(1, .pointer (some ⟨b1, 0, none⟩)), (2, .pointer (some ⟨b2, 0, none⟩)), (3, .pointer (some ⟨b13, 0, none⟩)), (4, .pointer (some ⟨b18, 0, none⟩)), (5, .int .i64 i)] ∧ D_ = [blk b1 31 (nums .i64 xs), blk b13 31 (nums .i64 zs10), blk b18 31 (nums .i64 os), blk b2 31 (nums .i64 (List.replicate 32 (0 : Int)))]) id _ ⟨254, zs15, (by first | assumption | omega | (simp only [List.length_append, List.length_cons, List.length_nil, List.length_set, List.length_replicate, List.length_take, List.length_drop]; omega) | (simp only [fits] at *; omega) | (simp only [List.length_append, List.length_cons, List.length_nil, List.length_set, List.length_replicate, List.length_take, List.length_drop] at *; omega) | (simp; done) | decide), (by first | assumption | omega | (simp only [List.length_append, List.length_cons, List.length_nil, List.length_set, List.length_replicate, List.length_take, List.length_drop]; omega) | (simp only [fits] at *; omega) | (simp only [List.length_append, List.length_cons, List.length_nil, List.length_set, List.length_replicate, List.length_take, List.length_drop] at *; omega) | (simp; done) | decide), (by refine dg_cast (by assumption) ?_; rw [show EN / 2 ^ ((254 : Int) + 1).toNat = 0 by decide +kernel, pw_zero]), (by first | rfl | assumption | omega | (simp only [List.length_append, List.length_cons, List.length_nil, List.length_set, List.length_replicate, List.length_take, List.length_drop]; omega) | (simp; done)), (by rw [hes]; exact leB_in _ _), rfl, rfl, rfl⟩ ?_
  rintro n_ _ _ ⟨i, os, h1i, h2i, hO, hol, hei, rfl, rfl, rfl⟩
  refine RunC.seq ?_
  refine RunC.seq ?_
  refine RunC.region ?_
  refine RunR.sil hU [] 2 2 [1, 2, 3, 4, 5, 11] [(1, .pointer (some ⟨b1, 0, none⟩)), (2, .pointer (some ⟨b2, 0, none⟩)), (3, .pointer (some ⟨b13, 0, none⟩)), (4, .pointer (some ⟨b18, 0, none⟩)), (5, .int .i64 i), (11, .bool (decide (i ≥ 0)))] ((True) ∧ (True) ∧ True) rfl (by kernel_rfl) ⟨trivial, trivial, trivial⟩ ?_
  refine RunR.done (by kernel_rfl) ?_
  refine kseq_n ?_
  refine RunC.condp (i ≥ 0) (by kernel_rfl) (fun h20 => ?_) (fun h20 => ?_)
  · skip
    refine RunC.skip ?_
    refine kseq_n ?_
    refine RunC.seq ?_
    refine RunC.block ?_
    refine RunC.seq ?_
    refine RunC.region ?_
    refine RunR.step (dst := some 14) (op := .load 31 (.tmp 4)) (by kernel_rfl) (Step.load_arr hU 2 b18 31 32 .i64 os (by kernel_rfl) (by kernel_rfl) (by kernel_rfl) (by kernel_rfl) (by first | rfl | omega | (simp; done)) (by kernel_rfl) ?_)
    refine RunR.step (dst := some 15) (op := .load 31 (.tmp 4)) (by kernel_rfl) (Step.load_arr hU 2 b18 31 32 .i64 os (by kernel_rfl) (by kernel_rfl) (by kernel_rfl) (by kernel_rfl) (by first | rfl | omega | (simp; done)) (by kernel_rfl) ?_)
    refine RunR.step (dst := some 16) (op := .call { callee := .value (.func 34), args := #[.tmp 14, .tmp 15], argTypes := #[31, 31] }) (by kernel_rfl) (Step.call 34 [.agg (nums .i64 os).toArray, .agg (nums .i64 os).toArray] (by kernel_rfl) (by kernel_rfl) [] [] [blk b1 31 (nums .i64 xs), blk b13 31 (nums .i64 zs10), blk b18 31 (nums .i64 os), blk b2 31 (nums .i64 (List.replicate 32 (0 : Int)))] (n_Mul_spec os (pw x (EN / 2 ^ (i + 1).toNat)) os (pw x (EN / 2 ^ (i + 1).toNat)) (by assumption) (by first | rfl | assumption | omega | (simp only [List.length_append, List.length_cons, List.length_nil, List.length_set, List.length_replicate, List.length_take, List.length_drop]; omega) | (simp; done)) (by assumption) (by first | rfl | assumption | omega | (simp only [List.length_append, List.length_cons, List.length_nil, List.length_set, List.length_replicate, List.length_take, List.length_drop]; omega) | (simp; done))) [] (by kernel_rfl) (Lend.nil _) ?_)
    rintro _ _ ⟨zs21, rfl, rfl, hp22, hp23⟩
    refine RunR.step (dst := none) (op := .store 31 (.tmp 4) (.tmp 16)) (by kernel_rfl) (Step.store_arr hU 2 b18 31 32 .i64 os zs21 (by kernel_rfl) (by kernel_rfl) (by kernel_rfl) (by kernel_rfl) (by first | rfl | omega | (simp; done)) (by first | rfl | omega | (simp; done)) ?_)
    refine RunR.done (by kernel_rfl) ?_
    refine kseq_n ?_
    refine RunC.seq ?_
    refine RunC.region ?_
    refine RunR.sil hU [1] 3 3 [1, 2, 3, 4, 5, 19] [(1, .pointer (some ⟨b1, 0, none⟩)), (2, .pointer (some ⟨b2, 0, none⟩)), (3, .pointer (some ⟨b13, 0, none⟩)), (4, .pointer (some ⟨b18, 0, none⟩)), (5, .int .i64 i), (19, .pointer (some ⟨b13, 0 + (i / (8 : Int)).toNat * 1, none⟩))] ((True) ∧ (0 ≤ i ∧ 0 < (8 : Int) ∧ -9223372036854775808 ≤ (i / (8 : Int)) ∧ (i / (8 : Int)) < 9223372036854775808) ∧ (0 ≤ (i / (8 : Int)) ∧ (i / (8 : Int)) < ((32 : Nat) : Int)) ∧ True) rfl (by kernel_rfl) ⟨trivial, (by omega), (by omega), trivial⟩ ?_
    refine RunR.step (dst := some 20) (op := .load 3 (.tmp 19)) (by kernel_rfl) (Step.load_blknum hU 2 b13 (0 + (i / (8 : Int)).toNat * 1) 31 ((i / (8 : Int)).toNat) .i64 zs10 rfl (by kernel_rfl) (by kernel_rfl) (by kernel_rfl) (by omega) (by first | omega | (simp only [List.length_cons, List.length_nil]; omega)) ?_)
    have hb24 : 0 ≤ zs10.getD ((i / (8 : Int)).toNat) 0 ∧ zs10.getD ((i / (8 : Int)).toNat) 0 < 256 := hei.at_ _
    have hm25 : 0 ≤ (zs10.getD ((i / (8 : Int)).toNat) 0) → 0 ≤ (zs10.getD ((i / (8 : Int)).toNat) 0) / 2 ^ (min (i % (8 : Int)).toNat 64) ∧ (zs10.getD ((i / (8 : Int)).toNat) 0) / 2 ^ (min (i % (8 : Int)).toNat 64) ≤ (zs10.getD ((i / (8 : Int)).toNat) 0) := fun h => ⟨Int.ediv_nonneg h (Int.le_of_lt (Int.pow_pos (by decide))), Int.ediv_le_self _ h⟩
    refine RunR.sil hU [5, 6, 7, 8] 6 10 [1, 2, 3, 4, 5, 26] [(1, .pointer (some ⟨b1, 0, none⟩)), (2, .pointer (some ⟨b2, 0, none⟩)), (3, .pointer (some ⟨b13, 0, none⟩)), (4, .pointer (some ⟨b18, 0, none⟩)), (5, .int .i64 i), (26, .bool (decide ((((zs10.getD ((i / (8 : Int)).toNat) 0) / 2 ^ (min (i % (8 : Int)).toNat 64)) % (2 : Int)) = 1)))] ((True) ∧ (0 ≤ i ∧ 0 < (8 : Int)) ∧ (0 ≤ (i % (8 : Int)) ∧ (i % (8 : Int)) < 18446744073709551616) ∧ (0 ≤ (i % (8 : Int))) ∧ (0 ≤ ((zs10.getD ((i / (8 : Int)).toNat) 0) / 2 ^ (min (i % (8 : Int)).toNat 64)) ∧ 0 < (2 : Int)) ∧ (True) ∧ True) rfl (by kernel_rfl) ⟨trivial, (by omega), (by omega), (by omega), (by omega), trivial, trivial⟩ ?_
    refine RunR.done (by kernel_rfl) ?_
    refine kseq_n ?_
    refine RunC.condp ((((zs10.getD ((i / (8 : Int)).toNat) 0) / 2 ^ (min (i % (8 : Int)).toNat 64)) % (2 : Int)) = 1) (by kernel_rfl) (fun h26 => ?_) (fun h26 => ?_)
    · skip
      refine RunC.region ?_
      refine RunR.step (dst := some 27) (op := .load 31 (.tmp 4)) (by kernel_rfl) (Step.load_arr hU 0 b18 31 32 .i64 zs21 (by kernel_rfl) (by kernel_rfl) (by kernel_rfl) (by kernel_rfl) (by first | rfl | omega | (simp; done)) (by kernel_rfl) ?_)
      refine RunR.step (dst := some 28) (op := .load 31 (.tmp 1)) (by kernel_rfl) (Step.load_arr hU 1 b1 31 32 .i64 xs (by kernel_rfl) (by kernel_rfl) (by kernel_rfl) (by kernel_rfl) (by first | rfl | omega | (simp; done)) (by kernel_rfl) ?_)
      refine RunR.step (dst := some 29) (op := .call { callee := .value (.func 34), args := #[.tmp 27, .tmp 28], argTypes := #[31, 31] }) (by kernel_rfl) (Step.call 34 [.agg (nums .i64 zs21).toArray, .agg (nums .i64 xs).toArray] (by kernel_rfl) (by kernel_rfl) [] [] [blk b18 31 (nums .i64 zs21), blk b1 31 (nums .i64 xs), blk b13 31 (nums .i64 zs10), blk b2 31 (nums .i64 (List.replicate 32 (0 : Int)))] (n_Mul_spec zs21 (((pw x (EN / 2 ^ (i + 1).toNat)) * (pw x (EN / 2 ^ (i + 1).toNat))) % P) xs x (by assumption) (by first | rfl | assumption | omega | (simp only [List.length_append, List.length_cons, List.length_nil, List.length_set, List.length_replicate, List.length_take, List.length_drop]; omega) | (simp; done)) (by assumption) (by first | rfl | assumption | omega | (simp only [List.length_append, List.length_cons, List.length_nil, List.length_set, List.length_replicate, List.length_take, List.length_drop]; omega) | (simp; done))) [] (by kernel_rfl) (Lend.nil _) ?_)
      rintro _ _ ⟨zs27, rfl, rfl, hp28, hp29⟩
      refine RunR.step (dst := none) (op := .store 31 (.tmp 4) (.tmp 29)) (by kernel_rfl) (Step.store_arr hU 0 b18 31 32 .i64 zs21 zs27 (by kernel_rfl) (by kernel_rfl) (by kernel_rfl) (by kernel_rfl) (by first | rfl | omega | (simp; done)) (by first | rfl | omega | (simp; done)) ?_)
      refine RunR.done (by kernel_rfl) ?_
      refine kblock_n ?_
      refine kseq_n ?_
      refine RunC.region ?_
      refine RunR.sil hU [1] 3 3 [1, 2, 3, 4, 5] [(1, .pointer (some ⟨b1, 0, none⟩)), (2, .pointer (some ⟨b2, 0, none⟩)), (3, .pointer (some ⟨b13, 0, none⟩)), (4, .pointer (some ⟨b18, 0, none⟩)), (5, .int .i64 (i - 1))] ((True) ∧ (-9223372036854775808 ≤ (i - 1) ∧ (i - 1) < 9223372036854775808) ∧ (True) ∧ True) rfl (by kernel_rfl) ⟨trivial, (by omega), trivial, trivial⟩ ?_
      refine RunR.done (by kernel_rfl) ?_
      refine kloop_n _ [1, 2, 3, 4, 5] [1, 1, 0, 0] [(1, .pointer (some ⟨b1, 0, none⟩)), (2, .pointer (some ⟨b2, 0, none⟩)), (3, .pointer (some ⟨b13, 0, none⟩)), (4, .pointer (some ⟨b18, 0, none⟩)), (5, .int .i64 (i - 1))] [blk b1 31 (nums .i64 xs), blk b13 31 (nums .i64 zs10), blk b18 31 (nums .i64 zs27), blk b2 31 (nums .i64 (List.replicate 32 (0 : Int)))] (by kernel_rfl) (by kernel_rfl) ?_ ⟨(i - 1), zs27, (by first | assumption | omega | (simp only [List.length_append, List.length_cons, List.length_nil, List.length_set, List.length_replicate, List.length_take, List.length_drop]; omega) | (simp only [fits] at *; omega) | (simp only [List.length_append, List.length_cons, List.length_nil, List.length_set, List.length_replicate, List.length_take, List.length_drop] at *; omega) | (simp; done) | decide), (by first | assumption | omega | (simp only [List.length_append, List.length_cons, List.length_nil, List.length_set, List.length_replicate, List.length_take, List.length_drop]; omega) | (simp only [fits] at *; omega) | (simp only [List.length_append, List.length_cons, List.length_nil, List.length_set, List.length_replicate, List.length_take, List.length_drop] at *; omega) | (simp; done) | decide), (by first | exact dg_cast (by assumption) (inv_one (by omega) (by omega) (by rw [← hes]; assumption)) | exact dg_cast (by assumption) (inv_zero (by omega) (by omega) (by rw [← hes]; assumption))), (by assumption), hei, rfl, (by first | rfl | simp only [List.length_set]), (by first | rfl | simp only [List.length_set])⟩
      show (((i - 1) + 1).toNat : Nat) < ((i + 1).toNat : Nat)
      omega
    · skip
      refine RunC.skip ?_
      refine kblock_n ?_
      refine kseq_n ?_
      refine RunC.region ?_
      refine RunR.sil hU [1] 3 3 [1, 2, 3, 4, 5] [(1, .pointer (some ⟨b1, 0, none⟩)), (2, .pointer (some ⟨b2, 0, none⟩)), (3, .pointer (some ⟨b13, 0, none⟩)), (4, .pointer (some ⟨b18, 0, none⟩)), (5, .int .i64 (i - 1))] ((True) ∧ (-9223372036854775808 ≤ (i - 1) ∧ (i - 1) < 9223372036854775808) ∧ (True) ∧ True) rfl (by kernel_rfl) ⟨trivial, (by omega), trivial, trivial⟩ ?_
      refine RunR.done (by kernel_rfl) ?_
      refine kloop_n _ [1, 2, 3, 4, 5] [1, 1, 0, 0] [(1, .pointer (some ⟨b1, 0, none⟩)), (2, .pointer (some ⟨b2, 0, none⟩)), (3, .pointer (some ⟨b13, 0, none⟩)), (4, .pointer (some ⟨b18, 0, none⟩)), (5, .int .i64 (i - 1))] [blk b1 31 (nums .i64 xs), blk b13 31 (nums .i64 zs10), blk b18 31 (nums .i64 zs21), blk b2 31 (nums .i64 (List.replicate 32 (0 : Int)))] (by kernel_rfl) (by kernel_rfl) ?_ ⟨(i - 1), zs21, (by first | assumption | omega | (simp only [List.length_append, List.length_cons, List.length_nil, List.length_set, List.length_replicate, List.length_take, List.length_drop]; omega) | (simp only [fits] at *; omega) | (simp only [List.length_append, List.length_cons, List.length_nil, List.length_set, List.length_replicate, List.length_take, List.length_drop] at *; omega) | (simp; done) | decide), (by first | assumption | omega | (simp only [List.length_append, List.length_cons, List.length_nil, List.length_set, List.length_replicate, List.length_take, List.length_drop]; omega) | (simp only [fits] at *; omega) | (simp only [List.length_append, List.length_cons, List.length_nil, List.length_set, List.length_replicate, List.length_take, List.length_drop] at *; omega) | (simp; done) | decide), (by first | exact dg_cast (by assumption) (inv_one (by omega) (by omega) (by rw [← hes]; assumption)) | exact dg_cast (by assumption) (inv_zero (by omega) (by omega) (by rw [← hes]; assumption))), (by assumption), hei, rfl, (by first | rfl | simp only [List.length_set]), (by first | rfl | simp only [List.length_set])⟩
      show (((i - 1) + 1).toNat : Nat) < ((i + 1).toNat : Nat)
      omega
  · skip
    refine RunC.exit ?_
    refine kseq_e ?_
    refine kloop_e ?_
    refine kblock_e ?_
    refine kseq_n ?_
    refine RunC.seq ?_
    refine RunC.region ?_
    refine RunR.step (dst := some 30) (op := .load 31 (.tmp 4)) (by kernel_rfl) (Step.load_arr hU 2 b18 31 32 .i64 os (by kernel_rfl) (by kernel_rfl) (by kernel_rfl) (by kernel_rfl) (by first | rfl | omega | (simp; done)) (by kernel_rfl) ?_)
    refine RunR.step (dst := none) (op := .store 31 (.tmp 2) (.tmp 30)) (by kernel_rfl) (Step.store_arr hU 3 b2 31 32 .i64 (List.replicate 32 (0 : Int)) os (by kernel_rfl) (by kernel_rfl) (by kernel_rfl) (by kernel_rfl) (by first | rfl | omega | (simp; done)) (by first | rfl | omega | (simp; done)) ?_)
    refine RunR.done (by kernel_rfl) ?_
    refine kseq_n ?_
    refine RunC.ret ?_
    refine kret_r [.agg (nums .i64 os).toArray] [] [] ⟨⟨0, b2, 0, 31, nums .i64 os, rfl, rfl, (loadv_arr (U := U) (n := 32) (by kernel_rfl) (by kernel_rfl) (by first | rfl | omega | assumption | (simp; done)))⟩, trivial⟩ (by kernel_rfl) rfl ⟨os, rfl, rfl, (by refine dg_cast hO ?_; rw [show (i + 1).toNat = 0 by omega]; rfl), (by exact hol)⟩
end Go.Proofs.Ytbnjcfhnbjaoiaa.Z2
