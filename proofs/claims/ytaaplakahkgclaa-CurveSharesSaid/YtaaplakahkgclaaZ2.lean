/- What these functions compute: a contract for each, walked through its code. -/
import Derived.Test.YtaaplakahkgclaaSLzh
import Derived.Test.YtaaplakahkgclaaKPure
import Derived.Test.YtaaplakahkgclaaProg
import Derived.Test.YtaaplakahkgclaaX1
import Derived.Test.YtaaplakahkgclaaX2
import Derived.Test.YtaaplakahkgclaaX3
import Derived.Test.YtaaplakahkgclaaX4
import Derived.Test.YtaaplakahkgclaaX5
import Derived.Test.YtaaplakahkgclaaX6
import Derived.Test.YtaaplakahkgclaaX7
import Derived.Test.YtaaplakahkgclaaX8
import Derived.Test.YtaaplakahkgclaaX9
import Derived.Test.YtaaplakahkgclaaY1
import Derived.Test.YtaaplakahkgclaaY2
import Derived.Test.YtaaplakahkgclaaY3
import Derived.Test.YtaaplakahkgclaaY4
import Derived.Test.YtaaplakahkgclaaY5
import Derived.Test.YtaaplakahkgclaaY6
import Derived.Test.YtaaplakahkgclaaZ1
namespace Go.Proofs.Ytaaplakahkgclaa.Z2
open Go Go.Proofs.Ytaaplakahkgclaa.SL Go.Proofs.Ytaaplakahkgclaa.SL.W Go.Proofs.Ytaaplakahkgclaa.SL.F Go.Proofs.Ytaaplakahkgclaa.SL.N Go.Proofs.Ytaaplakahkgclaa.SL.E Go.Proofs.Ytaaplakahkgclaa.SL.K Go.Proofs.Ytaaplakahkgclaa.X1 Go.Proofs.Ytaaplakahkgclaa.X2 Go.Proofs.Ytaaplakahkgclaa.X3 Go.Proofs.Ytaaplakahkgclaa.X4 Go.Proofs.Ytaaplakahkgclaa.X5 Go.Proofs.Ytaaplakahkgclaa.X6 Go.Proofs.Ytaaplakahkgclaa.X7 Go.Proofs.Ytaaplakahkgclaa.X8 Go.Proofs.Ytaaplakahkgclaa.X9 Go.Proofs.Ytaaplakahkgclaa.Y1 Go.Proofs.Ytaaplakahkgclaa.Y2 Go.Proofs.Ytaaplakahkgclaa.Y3 Go.Proofs.Ytaaplakahkgclaa.Y4 Go.Proofs.Ytaaplakahkgclaa.Y5 Go.Proofs.Ytaaplakahkgclaa.Y6 Go.Proofs.Ytaaplakahkgclaa.Z1
set_option linter.unusedVariables false
set_option linter.unusedSimpArgs false
set_option maxRecDepth 100000
set_option maxHeartbeats 40000000
def U : Tab where
  und := [(3, .int .i64), (91, .array 32 3), (92, .array 32 3), (114, .int .u64)]
  fld := []
  sz := [(3, 1), (91, 32), (92, 32), (114, 1)]
  ti := [(3, (1, 8, .int .i64 0)), (91, (32, 256, z32)), (92, (32, 256, z32)), (114, (1, 8, .int .u64 0))]
  bld := []

theorem hU : U.OK Try.prog where
  und := by
    intro p hp
    simp only [U, List.mem_cons, List.not_mem_nil, or_false] at hp
    rcases hp with rfl | rfl | rfl | rfl
    · exact Try.underlying3
    · exact Try.underlying91
    · exact Try.underlying92
    · exact Try.underlying114
  fld := by
    intro p hp; cases hp
  sz := by
    intro p hp
    simp only [U, List.mem_cons, List.not_mem_nil, or_false] at hp
    rcases hp with rfl | rfl | rfl | rfl
    · exact ⟨Try.prog.types[3]!, by kernel_rfl, by kernel_rfl⟩
    · exact ⟨Try.prog.types[91]!, by kernel_rfl, by kernel_rfl⟩
    · exact ⟨Try.prog.types[92]!, by kernel_rfl, by kernel_rfl⟩
    · exact ⟨Try.prog.types[114]!, by kernel_rfl, by kernel_rfl⟩
  ti := by
    intro p hp
    simp only [U, List.mem_cons, List.not_mem_nil, or_false] at hp
    rcases hp with rfl | rfl | rfl | rfl
    · exact ⟨Try.prog.types[3]!, by kernel_rfl, by kernel_rfl, by kernel_rfl, by kernel_rfl⟩
    · exact ⟨Try.prog.types[91]!, by kernel_rfl, by kernel_rfl, by kernel_rfl, by kernel_rfl⟩
    · exact ⟨Try.prog.types[92]!, by kernel_rfl, by kernel_rfl, by kernel_rfl, by kernel_rfl⟩
    · exact ⟨Try.prog.types[114]!, by kernel_rfl, by kernel_rfl, by kernel_rfl, by kernel_rfl⟩
  bld := by
    intro p hp; cases hp
  mixed := by kernel_rfl

theorem n_Invert_spec (xs : List Int) (x : Int) (hX : Dg xs x) (hlx : xs.length = 32) (hxP : x < P) :
    CallsS Try.prog 82 [ag .i64 xs] [] (fun r D => ∃ (zs : List Int), r = ag .i64 zs ∧ D = [] ∧ (Dg zs (pw x EN)) ∧ (zs.length = 32)) := by
  refine CallsS.enter hU Try.f82 _ [.cell 2 92] 31 Try.func82 rfl (by decide) rfl rfl (by kernel_rfl) fun w0 W => ?_
  refine RunC.sr ?_
  refine RunR.st (some 1) (.box 92 (.tmp 0)) (Step.box (ag .i64 xs) (by kernel_rfl) (by kernel_rfl) (fun b1 => ?_))
  refine RunR.st (some 2) (.alloc 92) (Step.al hU 32 256 z32 (fun b2 => ?_))
  have hl3 : (List.replicate 32 (0 : Int)).length = 32 := List.length_replicate
  refine RunR.nx ?_
  refine RunR.st (some 6) (.call { callee := .value (.func 102), args := #[], argTypes := #[] }) (Step.cn 102 [] [] [blk b2 92 (nums .i64 (List.replicate 32 (0 : Int))), blk b1 92 (nums .i64 xs)] (n_prime_spec) [] ?_)
  rintro _ _ ⟨zs4, rfl, rfl, hp5, hp6⟩
  refine RunR.st (some 7) (.call { callee := .value (.func 62), args := #[.const (.int .u32 2)], argTypes := #[96] }) (Step.cn 62 [.int .u32 2] [] [blk b2 92 (nums .i64 (List.replicate 32 (0 : Int))), blk b1 92 (nums .i64 xs)] (n_Small_spec 2 (by (refine ⟨?_, ?_⟩ <;> omega))) [] ?_)
  rintro _ _ ⟨zs7, rfl, rfl, hp8, hp9⟩
  refine RunR.st (some 8) (.call { callee := .value (.func 101), args := #[.tmp 6, .tmp 7], argTypes := #[92, 92] }) (Step.cn 101 [ag .i64 zs4, ag .i64 zs7] [] [blk b2 92 (nums .i64 (List.replicate 32 (0 : Int))), blk b1 92 (nums .i64 xs)] (n_minus_spec zs4 P zs7 2 (by assumption) (by assumption) (by assumption) (by assumption) (by simp only [P]; decide)) [] ?_)
  rintro _ _ ⟨zs10, rfl, rfl, hp11, hp12⟩
  refine RunR.st (some 3) (.alloc 92) (Step.al hU 32 256 z32 (fun b13 => ?_))
  have hl14 : (List.replicate 32 (0 : Int)).length = 32 := List.length_replicate
  refine RunR.st none (.store 92 (.tmp 3) (.tmp 8)) (Step.store_arr hU 0 b13 92 32 .i64 (List.replicate 32 (0 : Int)) zs10 (by kernel_rfl) (by kernel_rfl) (by kernel_rfl) (by kernel_rfl) (by rfl) (by omega) ?_)
  refine RunR.nx ?_
  refine RunR.st (some 9) (.call { callee := .value (.func 62), args := #[.const (.int .u32 1)], argTypes := #[96] }) (Step.cn 62 [.int .u32 1] [] [blk b13 92 (nums .i64 zs10), blk b2 92 (nums .i64 (List.replicate 32 (0 : Int))), blk b1 92 (nums .i64 xs)] (n_Small_spec 1 (by (refine ⟨?_, ?_⟩ <;> omega))) [] ?_)
  rintro _ _ ⟨zs15, rfl, rfl, hp16, hp17⟩
  refine RunR.st (some 4) (.alloc 92) (Step.al hU 32 256 z32 (fun b18 => ?_))
  have hl19 : (List.replicate 32 (0 : Int)).length = 32 := List.length_replicate
  refine RunR.st none (.store 92 (.tmp 4) (.tmp 9)) (Step.store_arr hU 0 b18 92 32 .i64 (List.replicate 32 (0 : Int)) zs15 (by kernel_rfl) (by kernel_rfl) (by kernel_rfl) (by kernel_rfl) (by rfl) (by omega) ?_)
  refine RunR.nn ?_
  refine RunC.seq ?_
  refine RunC.sr ?_
  refine RunR.sl hU [] 1 1 [1, 2, 3, 4, 5] [(1, pt b1), (2, pt b2), (3, pt b13), (4, pt b18), (5, .int .i64 254)] 1 ?_
  refine RunR.nn ?_
  refine RunC.block ?_
  have hes : zs10 = bitsE := (hp11).is.trans (by decide +kernel)
  refine RunC.env [1, 2, 3, 4, 5] [(1, pt b1), (2, pt b2), (3, pt b13), (4, pt b18), (5, .int .i64 254)] (by kernel_rfl) ?_
  refine RunC.only [3, 1, 0, 0] [blk b1 92 (nums .i64 xs), blk b13 92 (nums .i64 zs10), blk b18 92 (nums .i64 zs15), blk b2 92 (nums .i64 (List.replicate 32 (0 : Int)))] (by kernel_rfl) ?_
  refine RunC.loop (σ := Nat) (fun n_ t_ D_ => ∃ (i : Int) (os : List Int), (-1 ≤ i) ∧ (i ≤ 254) ∧ (Dg os (pw x (EN / 2 ^ (i + 1).toNat))) ∧ (os.length = 32) ∧ (In .u8 zs10) ∧ n_ = ((i + 1).toNat : Nat) ∧ t_ = [(1, pt b1), (2, pt b2), (3, pt b13), (4, pt b18), (5, .int .i64 i)] ∧ D_ = [blk b1 92 (nums .i64 xs), blk b13 92 (nums .i64 zs10), blk b18 92 (nums .i64 os), blk b2 92 (nums .i64 (List.replicate 32 (0 : Int)))]) id _ ⟨254, zs15, (by omega), (by omega), (by refine dg_cast (by assumption) ?_; rw [show EN / 2 ^ ((254 : Int) + 1).toNat = 0 by decide +kernel, pw_zero]), (by assumption), (by rw [hes]; exact leB_in _ _), rfl, rfl, rfl⟩ ?_
  rintro n_ _ _ ⟨i, os, h1i, h2i, hO, hol, hei, rfl, rfl, rfl⟩
  refine RunC.seq ?_
  refine RunC.sr ?_
  refine RunR.sl hU [] 2 2 [1, 2, 3, 4, 5, 11] [(1, pt b1), (2, pt b2), (3, pt b13), (4, pt b18), (5, .int .i64 i), (11, .bool (decide (i ≥ 0)))] 2 ?_
  refine RunR.nn ?_
  refine RunC.condp (i ≥ 0) (by kernel_rfl) (fun h20 => ?_) (fun h20 => ?_)
  · skip
    refine RunC.ks ?_
    refine RunC.seq ?_
    refine RunC.block ?_
    refine RunC.sr ?_
    refine RunR.st (some 14) (.load 92 (.tmp 4)) (Step.load_arr hU 2 b18 92 32 .i64 os (by kernel_rfl) (by kernel_rfl) (by kernel_rfl) (by kernel_rfl) (by omega) (by kernel_rfl) ?_)
    refine RunR.st (some 15) (.load 92 (.tmp 4)) (Step.load_arr hU 2 b18 92 32 .i64 os (by kernel_rfl) (by kernel_rfl) (by kernel_rfl) (by kernel_rfl) (by omega) (by kernel_rfl) ?_)
    refine RunR.st (some 16) (.call { callee := .value (.func 81), args := #[.tmp 14, .tmp 15], argTypes := #[92, 92] }) (Step.cn 81 [ag .i64 os, ag .i64 os] [] [blk b1 92 (nums .i64 xs), blk b13 92 (nums .i64 zs10), blk b18 92 (nums .i64 os), blk b2 92 (nums .i64 (List.replicate 32 (0 : Int)))] (n_Mul_spec os (pw x (EN / 2 ^ (i + 1).toNat)) os (pw x (EN / 2 ^ (i + 1).toNat)) (by assumption) (by assumption) (by assumption) (by assumption)) [] ?_)
    rintro _ _ ⟨zs21, rfl, rfl, hp22, hp23⟩
    refine RunR.st none (.store 92 (.tmp 4) (.tmp 16)) (Step.store_arr hU 2 b18 92 32 .i64 os zs21 (by kernel_rfl) (by kernel_rfl) (by kernel_rfl) (by kernel_rfl) (by omega) (by omega) ?_)
    refine RunR.nx ?_
    refine RunR.sil hU [1] 3 3 [1, 2, 3, 4, 5, 19] [(1, pt b1), (2, pt b2), (3, pt b13), (4, pt b18), (5, .int .i64 i), (19, .pointer (some ⟨b13, 0 + (i / (8 : Int)).toNat * 1, none⟩))] ((True) ∧ (0 ≤ i ∧ 0 < (8 : Int) ∧ -9223372036854775808 ≤ (i / (8 : Int)) ∧ (i / (8 : Int)) < 9223372036854775808) ∧ (0 ≤ (i / (8 : Int)) ∧ (i / (8 : Int)) < ((32 : Nat) : Int)) ∧ True) rfl (by kernel_rfl) ⟨trivial, (by omega), (by omega), trivial⟩ ?_
    refine RunR.st (some 20) (.load 3 (.tmp 19)) (Step.load_blknum hU 2 b13 (0 + (i / (8 : Int)).toNat * 1) 92 ((i / (8 : Int)).toNat) .i64 zs10 rfl (by kernel_rfl) (by kernel_rfl) (by kernel_rfl) (by omega) (by omega) ?_)
    have hb24 : 0 ≤ zs10.getD ((i / (8 : Int)).toNat) 0 ∧ zs10.getD ((i / (8 : Int)).toNat) 0 < 256 := hei.at_ _
    have hm25 : 0 ≤ (zs10.getD ((i / (8 : Int)).toNat) 0) → 0 ≤ (zs10.getD ((i / (8 : Int)).toNat) 0) / 2 ^ (min (i % (8 : Int)).toNat 64) ∧ (zs10.getD ((i / (8 : Int)).toNat) 0) / 2 ^ (min (i % (8 : Int)).toNat 64) ≤ (zs10.getD ((i / (8 : Int)).toNat) 0) := fun h => ⟨Int.ediv_nonneg h (Int.le_of_lt (Int.pow_pos (by decide))), Int.ediv_le_self _ h⟩
    refine RunR.sil hU [5, 6, 7, 8] 6 10 [1, 2, 3, 4, 5, 26] [(1, pt b1), (2, pt b2), (3, pt b13), (4, pt b18), (5, .int .i64 i), (26, .bool (decide ((((zs10.getD ((i / (8 : Int)).toNat) 0) / 2 ^ (min (i % (8 : Int)).toNat 64)) % (2 : Int)) = 1)))] ((True) ∧ (0 ≤ i ∧ 0 < (8 : Int)) ∧ (0 ≤ (i % (8 : Int)) ∧ (i % (8 : Int)) < 18446744073709551616) ∧ (0 ≤ (i % (8 : Int))) ∧ (0 ≤ ((zs10.getD ((i / (8 : Int)).toNat) 0) / 2 ^ (min (i % (8 : Int)).toNat 64)) ∧ 0 < (2 : Int)) ∧ (True) ∧ True) rfl (by kernel_rfl) ⟨trivial, (by omega), (by omega), (by omega), (by omega), trivial, trivial⟩ ?_
    refine RunR.nn ?_
    refine RunC.condp ((((zs10.getD ((i / (8 : Int)).toNat) 0) / 2 ^ (min (i % (8 : Int)).toNat 64)) % (2 : Int)) = 1) (by kernel_rfl) (fun h26 => ?_) (fun h26 => ?_)
    · skip
      refine RunC.region ?_
      refine RunR.st (some 27) (.load 92 (.tmp 4)) (Step.load_arr hU 0 b18 92 32 .i64 zs21 (by kernel_rfl) (by kernel_rfl) (by kernel_rfl) (by kernel_rfl) (by omega) (by kernel_rfl) ?_)
      refine RunR.st (some 28) (.load 92 (.tmp 1)) (Step.load_arr hU 1 b1 92 32 .i64 xs (by kernel_rfl) (by kernel_rfl) (by kernel_rfl) (by kernel_rfl) (by omega) (by kernel_rfl) ?_)
      refine RunR.st (some 29) (.call { callee := .value (.func 81), args := #[.tmp 27, .tmp 28], argTypes := #[92, 92] }) (Step.cn 81 [ag .i64 zs21, ag .i64 xs] [] [blk b18 92 (nums .i64 zs21), blk b1 92 (nums .i64 xs), blk b13 92 (nums .i64 zs10), blk b2 92 (nums .i64 (List.replicate 32 (0 : Int)))] (n_Mul_spec zs21 (((pw x (EN / 2 ^ (i + 1).toNat)) * (pw x (EN / 2 ^ (i + 1).toNat))) % P) xs x (by assumption) (by assumption) (by assumption) (by assumption)) [] ?_)
      rintro _ _ ⟨zs27, rfl, rfl, hp28, hp29⟩
      refine RunR.st none (.store 92 (.tmp 4) (.tmp 29)) (Step.store_arr hU 0 b18 92 32 .i64 zs21 zs27 (by kernel_rfl) (by kernel_rfl) (by kernel_rfl) (by kernel_rfl) (by omega) (by omega) ?_)
      refine RunR.dn ?_
      refine kblock_n ?_
      refine kseq_n ?_
      refine RunC.region ?_
      refine RunR.sil hU [1] 3 3 [1, 2, 3, 4, 5] [(1, pt b1), (2, pt b2), (3, pt b13), (4, pt b18), (5, .int .i64 (i - 1))] ((True) ∧ (-9223372036854775808 ≤ (i - 1) ∧ (i - 1) < 9223372036854775808) ∧ (True) ∧ True) rfl (by kernel_rfl) ⟨trivial, (by omega), trivial, trivial⟩ ?_
      refine RunR.dn ?_
      refine kloop_n _ [1, 2, 3, 4, 5] [1, 1, 0, 0] [(1, pt b1), (2, pt b2), (3, pt b13), (4, pt b18), (5, .int .i64 (i - 1))] [blk b1 92 (nums .i64 xs), blk b13 92 (nums .i64 zs10), blk b18 92 (nums .i64 zs27), blk b2 92 (nums .i64 (List.replicate 32 (0 : Int)))] (by kernel_rfl) (by kernel_rfl) ?_ ⟨(i - 1), zs27, (by omega), (by omega), (by exact dg_cast (by assumption) (inv_one (by omega) (by omega) (by rw [← hes]; assumption))), (by assumption), hei, rfl, (by rfl), (by rfl)⟩
      show (((i - 1) + 1).toNat : Nat) < ((i + 1).toNat : Nat)
      omega
    · skip
      refine RunC.skip ?_
      refine kblock_n ?_
      refine kseq_n ?_
      refine RunC.region ?_
      refine RunR.sil hU [1] 3 3 [1, 2, 3, 4, 5] [(1, pt b1), (2, pt b2), (3, pt b13), (4, pt b18), (5, .int .i64 (i - 1))] ((True) ∧ (-9223372036854775808 ≤ (i - 1) ∧ (i - 1) < 9223372036854775808) ∧ (True) ∧ True) rfl (by kernel_rfl) ⟨trivial, (by omega), trivial, trivial⟩ ?_
      refine RunR.dn ?_
      refine kloop_n _ [1, 2, 3, 4, 5] [1, 1, 0, 0] [(1, pt b1), (2, pt b2), (3, pt b13), (4, pt b18), (5, .int .i64 (i - 1))] [blk b1 92 (nums .i64 xs), blk b13 92 (nums .i64 zs10), blk b18 92 (nums .i64 zs21), blk b2 92 (nums .i64 (List.replicate 32 (0 : Int)))] (by kernel_rfl) (by kernel_rfl) ?_ ⟨(i - 1), zs21, (by omega), (by omega), (by exact dg_cast (by assumption) (inv_zero (by omega) (by omega) (by rw [← hes]; assumption))), (by assumption), hei, rfl, (by rfl), (by rfl)⟩
      show (((i - 1) + 1).toNat : Nat) < ((i + 1).toNat : Nat)
      omega
  · skip
    refine RunC.exit ?_
    refine kseq_e ?_
    refine kloop_e ?_
    refine kblock_e ?_
    refine kseq_n ?_
    refine RunC.sr ?_
    refine RunR.st (some 30) (.load 92 (.tmp 4)) (Step.load_arr hU 2 b18 92 32 .i64 os (by kernel_rfl) (by kernel_rfl) (by kernel_rfl) (by kernel_rfl) (by omega) (by kernel_rfl) ?_)
    refine RunR.st none (.store 92 (.tmp 2) (.tmp 30)) (Step.store_arr hU 3 b2 92 32 .i64 (List.replicate 32 (0 : Int)) os (by kernel_rfl) (by kernel_rfl) (by kernel_rfl) (by kernel_rfl) (by rfl) (by omega) ?_)
    refine RunR.nn ?_
    refine RunC.ret ?_
    refine kret_r [ag .i64 os] [] [] ⟨⟨0, b2, 0, 92, nums .i64 os, rfl, rfl, (loadv_arr (U := U) (n := 32) (by kernel_rfl) (by kernel_rfl) (by omega))⟩, trivial⟩ (by kernel_rfl) rfl ⟨os, rfl, rfl, (by refine dg_cast hO ?_; rw [show (i + 1).toNat = 0 by omega]; rfl), (by exact hol)⟩
end Go.Proofs.Ytaaplakahkgclaa.Z2
