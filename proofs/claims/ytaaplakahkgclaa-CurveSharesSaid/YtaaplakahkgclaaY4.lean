/- What these functions compute: a contract for each, walked through its code. -/
import Derived.Test.YtaaplakahkgclaaSLzh
import Derived.Test.YtaaplakahkgclaaKPure
import Derived.Test.YtaaplakahkgclaaProg
import Derived.Test.YtaaplakahkgclaaX1
import Derived.Test.YtaaplakahkgclaaX2
import Derived.Test.YtaaplakahkgclaaX3
import Derived.Test.YtaaplakahkgclaaX4
import Derived.Test.YtaaplakahkgclaaX5
import Derived.Test.YtaaplakahkgclaaX6
import Derived.Test.YtaaplakahkgclaaX7
import Derived.Test.YtaaplakahkgclaaX8
import Derived.Test.YtaaplakahkgclaaX9
import Derived.Test.YtaaplakahkgclaaY1
import Derived.Test.YtaaplakahkgclaaY2
import Derived.Test.YtaaplakahkgclaaY3
namespace Go.Proofs.Ytaaplakahkgclaa.Y4
open Go Go.Proofs.Ytaaplakahkgclaa.SL Go.Proofs.Ytaaplakahkgclaa.SL.W Go.Proofs.Ytaaplakahkgclaa.SL.F Go.Proofs.Ytaaplakahkgclaa.SL.N Go.Proofs.Ytaaplakahkgclaa.SL.E Go.Proofs.Ytaaplakahkgclaa.SL.K Go.Proofs.Ytaaplakahkgclaa.X1 Go.Proofs.Ytaaplakahkgclaa.X2 Go.Proofs.Ytaaplakahkgclaa.X3 Go.Proofs.Ytaaplakahkgclaa.X4 Go.Proofs.Ytaaplakahkgclaa.X5 Go.Proofs.Ytaaplakahkgclaa.X6 Go.Proofs.Ytaaplakahkgclaa.X7 Go.Proofs.Ytaaplakahkgclaa.X8 Go.Proofs.Ytaaplakahkgclaa.X9 Go.Proofs.Ytaaplakahkgclaa.Y1 Go.Proofs.Ytaaplakahkgclaa.Y2 Go.Proofs.Ytaaplakahkgclaa.Y3
set_option linter.unusedVariables false
set_option linter.unusedSimpArgs false
set_option maxRecDepth 100000
set_option maxHeartbeats 40000000
def U : Tab where
  und := [(3, .int .i64), (22, .slice 3), (91, .array 32 3), (92, .array 32 3)]
  fld := []
  sz := [(3, 1), (22, 1), (91, 32), (92, 32)]
  ti := [(3, (1, 8, .int .i64 0)), (22, (1, 24, .slice none 0 0)), (91, (32, 256, z32)), (92, (32, 256, z32))]
  bld := []

theorem hU : U.OK Try.prog where
  und := by
    intro p hp
    simp only [U, List.mem_cons, List.not_mem_nil, or_false] at hp
    rcases hp with rfl | rfl | rfl | rfl
    · exact Try.underlying3
    · exact Try.underlying22
    · exact Try.underlying91
    · exact Try.underlying92
  fld := by
    intro p hp; cases hp
  sz := by
    intro p hp
    simp only [U, List.mem_cons, List.not_mem_nil, or_false] at hp
    rcases hp with rfl | rfl | rfl | rfl
    · exact ⟨Try.prog.types[3]!, by kernel_rfl, by kernel_rfl⟩
    · exact ⟨Try.prog.types[22]!, by kernel_rfl, by kernel_rfl⟩
    · exact ⟨Try.prog.types[91]!, by kernel_rfl, by kernel_rfl⟩
    · exact ⟨Try.prog.types[92]!, by kernel_rfl, by kernel_rfl⟩
  ti := by
    intro p hp
    simp only [U, List.mem_cons, List.not_mem_nil, or_false] at hp
    rcases hp with rfl | rfl | rfl | rfl
    · exact ⟨Try.prog.types[3]!, by kernel_rfl, by kernel_rfl, by kernel_rfl, by kernel_rfl⟩
    · exact ⟨Try.prog.types[22]!, by kernel_rfl, by kernel_rfl, by kernel_rfl, by kernel_rfl⟩
    · exact ⟨Try.prog.types[91]!, by kernel_rfl, by kernel_rfl, by kernel_rfl, by kernel_rfl⟩
    · exact ⟨Try.prog.types[92]!, by kernel_rfl, by kernel_rfl, by kernel_rfl, by kernel_rfl⟩
  bld := by
    intro p hp; cases hp
  mixed := by kernel_rfl

theorem n_fold_spec (A : Option Addr) (cp : Nat) (xs : List Int) (l_xs : Nat) (hF : FB xs) (hc_xs : xs.length ≤ cp) (hA_xs : 0 < xs.length → Option.isSome A = true) (hl_xs : xs.length = l_xs) :
    CallsS Try.prog 100 [.slice A l_xs cp] [row 3 1 (.slice A l_xs cp) l_xs (nums .i64 xs)] (fun r D => ∃ (zs : List Int) (z : Int), r = ag .i64 zs ∧ D = [] ∧ (Dg zs z) ∧ (z % P = leN xs xs.length % P) ∧ (zs.length = 32)) := by
  subst hl_xs
  refine CallsS.enter hU Try.f100 _ [.cell 2 92] 74 Try.func100 rfl (by decide) rfl rfl (by kernel_rfl) fun w0 W => ?_
  refine RunC.sr ?_
  refine RunR.st (some 2) (.alloc 92) (Step.al hU 32 256 z32 (fun b1 => ?_))
  have hl2 : (List.replicate 32 (0 : Int)).length = 32 := List.length_replicate
  refine RunR.nx ?_
  refine RunR.st (some 3) (.alloc 92) (Step.al hU 32 256 z32 (fun b3 => ?_))
  have hl4 : (List.replicate 32 (0 : Int)).length = 32 := List.length_replicate
  refine RunR.nn ?_
  refine RunC.seq ?_
  refine RunC.block ?_
  refine RunC.env [0, 2, 3] [(0, .slice A xs.length cp), (2, pt b1), (3, pt b3)] (by kernel_rfl) ?_
  refine RunC.only [2, 0, 0] [row 3 1 (.slice A xs.length cp) xs.length (nums .i64 xs), blk b3 92 (nums .i64 (List.replicate 32 (0 : Int))), blk b1 92 (nums .i64 (List.replicate 32 (0 : Int)))] (by kernel_rfl) ?_
  refine RunC.loop (σ := Nat) (fun n_ t_ D_ => ∃ (B : Option Addr) (cb : Nat) (ls : List Int) (os : List Int), (FB ls) ∧ (Bnd 0 1099511627777 ls) ∧ (ls.length ≤ 63) ∧ (In .u8 os) ∧ (os.length = 32) ∧ ((leN os 32 + leN ls ls.length) % P = leN xs xs.length % P) ∧ (ls.length ≤ cb) ∧ (0 < ls.length → Option.isSome B = true) ∧ n_ = ((leN os 32 + leN ls ls.length).toNat + ls.length : Nat) ∧ t_ = [(0, .slice B ls.length cb), (2, pt b1), (3, pt b3)] ∧ D_ = [row 3 1 (.slice B ls.length cb) ls.length (nums .i64 ls), blk b3 92 (nums .i64 os), blk b1 92 (nums .i64 (List.replicate 32 (0 : Int)))]) id _ ⟨A, cp, xs, (List.replicate 32 (0 : Int)), (by exact hF), (by exact hF.bnd), (by exact hF.len), (by (repeat with_reducible exact In.replicate _ _)), (by rfl), (by rw [show leN (List.replicate 32 (0 : Int)) 32 = 0 by decide +kernel, Int.zero_add]), (by assumption), (fun h => hA_xs (by exact h)), rfl, rfl, rfl⟩ ?_
  rintro n_ _ _ ⟨B, cb, ls, os, hFB, hls, hl63, hO8, hol, hT, hc_ls, hA_ls, rfl, rfl, rfl⟩
  refine RunC.seq ?_
  refine RunC.sr ?_
  refine RunR.sl hU [] 3 3 [0, 2, 3, 11] [(0, .slice B ls.length cb), (2, pt b1), (3, pt b3), (11, .bool (decide (((ls.length : Nat) : Int) > 0)))] 3 ?_
  refine RunR.nn ?_
  refine RunC.condp (((ls.length : Nat) : Int) > 0) (by kernel_rfl) (fun h5 => ?_) (fun h5 => ?_)
  · skip
    refine RunC.ks ?_
    refine RunC.block ?_
    refine RunC.sr ?_
    refine RunR.sl hU [] 1 1 [0, 2, 3, 4] [(0, .slice B ls.length cb), (2, pt b1), (3, pt b3), (4, .int .i64 0)] 1 ?_
    refine RunR.nn ?_
    refine RunC.seq ?_
    refine RunC.sr ?_
    refine RunR.sl hU [] 1 1 [0, 2, 3, 4, 5] [(0, .slice B ls.length cb), (2, pt b1), (3, pt b3), (4, .int .i64 0), (5, .int .i64 0)] 1 ?_
    refine RunR.nn ?_
    refine RunC.block ?_
    refine RunC.env [0, 2, 3, 4, 5] [(0, .slice B ls.length cb), (2, pt b1), (3, pt b3), (4, .int .i64 0), (5, .int .i64 0)] (by kernel_rfl) ?_
    refine RunC.only [1, 0, 0] [blk b3 92 (nums .i64 os), row 3 1 (.slice B ls.length cb) ls.length (nums .i64 ls), blk b1 92 (nums .i64 (List.replicate 32 (0 : Int)))] (by kernel_rfl) ?_
    refine RunC.loop (σ := Nat) (fun n_ t_ D_ => ∃ (i : Int) (us : List Int) (c : Int), (0 ≤ i) ∧ (i ≤ 32) ∧ (us = mapP (df (gs os ls)) os i.toNat) ∧ (c = cf (gs os ls) i.toNat) ∧ (0 ≤ c ∧ c ≤ 17179869184) ∧ (In .u8 us) ∧ (Bnd 0 1099511627777 ls) ∧ (us.length = 32) ∧ n_ = ((32 - i).toNat : Nat) ∧ t_ = [(0, .slice B ls.length cb), (2, pt b1), (3, pt b3), (4, .int .i64 c), (5, .int .i64 i)] ∧ D_ = [blk b3 92 (nums .i64 us), row 3 1 (.slice B ls.length cb) ls.length (nums .i64 ls), blk b1 92 (nums .i64 (List.replicate 32 (0 : Int)))]) id _ ⟨0, os, 0, (by omega), (by omega), (by rfl), (by rfl), (by decide), (by exact hO8), (by assumption), (by exact hol), rfl, rfl, rfl⟩ ?_
    rintro n_ _ _ ⟨i, us, c, hi, hi2, hu, hc, hcb, hu8, haB, hul, rfl, rfl, rfl⟩
    refine RunC.seq ?_
    refine RunC.sr ?_
    refine RunR.sl hU [] 2 2 [0, 2, 3, 4, 5, 13] [(0, .slice B ls.length cb), (2, pt b1), (3, pt b3), (4, .int .i64 c), (5, .int .i64 i), (13, .bool (decide (i < 32)))] 2 ?_
    refine RunR.nn ?_
    refine RunC.condp (i < 32) (by kernel_rfl) (fun h6 => ?_) (fun h6 => ?_)
    · skip
      refine RunC.ks ?_
      refine RunC.seq ?_
      refine RunC.block ?_
      refine RunC.sr ?_
      refine RunR.sil hU [] 2 2 [0, 2, 3, 4, 5, 17] [(0, .slice B ls.length cb), (2, pt b1), (3, pt b3), (4, .int .i64 c), (5, .int .i64 i), (17, .pointer (some ⟨b3, 0 + (i).toNat * 1, none⟩))] ((True) ∧ (0 ≤ i ∧ i < ((32 : Nat) : Int)) ∧ True) rfl (by kernel_rfl) ⟨trivial, (by omega), trivial⟩ ?_
      refine RunR.st (some 18) (.load 3 (.tmp 17)) (Step.load_blknum hU 0 b3 (0 + (i).toNat * 1) 92 ((i).toNat) .i64 us rfl (by kernel_rfl) (by kernel_rfl) (by kernel_rfl) (by omega) (by omega) ?_)
      have hb7 : 0 ≤ us.getD ((i).toNat) 0 ∧ us.getD ((i).toNat) 0 < 256 := hu8.at_ _
      refine RunR.sil hU [4] 3 6 [0, 2, 3, 4, 5, 6] [(0, .slice B ls.length cb), (2, pt b1), (3, pt b3), (4, .int .i64 c), (5, .int .i64 i), (6, .int .i64 ((us.getD ((i).toNat) 0) + c))] ((True) ∧ (-9223372036854775808 ≤ ((us.getD ((i).toNat) 0) + c) ∧ ((us.getD ((i).toNat) 0) + c) < 9223372036854775808) ∧ (True) ∧ True) rfl (by kernel_rfl) ⟨trivial, (by omega), trivial, trivial⟩ ?_
      refine RunR.nn ?_
      refine RunC.seq ?_
      refine RunC.sr ?_
      refine RunR.sl hU [] 4 4 [0, 2, 3, 4, 5, 6, 24] [(0, .slice B ls.length cb), (2, pt b1), (3, pt b3), (4, .int .i64 c), (5, .int .i64 i), (6, .int .i64 ((us.getD ((i).toNat) 0) + c)), (24, .bool (decide (i < ((ls.length : Nat) : Int))))] 4 ?_
      refine RunR.nn ?_
      refine RunC.condp (i < ((ls.length : Nat) : Int)) (by kernel_rfl) (fun h8 => ?_) (fun h8 => ?_)
      · skip
        refine RunC.region ?_
        refine RunR.sil hU [] 4 4 [0, 2, 3, 4, 5, 6, 25, 28] [(0, .slice B ls.length cb), (2, pt b1), (3, pt b3), (4, .int .i64 c), (5, .int .i64 i), (6, .int .i64 ((us.getD ((i).toNat) 0) + c)), (25, .int .i64 ((us.getD ((i).toNat) 0) + c)), (28, .pointer (elemAt B i 1))] ((True) ∧ (True) ∧ (True) ∧ ((0 ≤ i ∧ i < ((ls.length : Nat) : Int)) ∧ Option.isSome B = true) ∧ True) rfl (by kernel_rfl) ⟨trivial, trivial, trivial, ⟨by omega, hA_ls (by omega)⟩, trivial⟩ ?_
        refine RunR.st (some 29) (.load 3 (.tmp 28)) (Step.load_num hU 1 (row 3 1 (.slice B ls.length cb) ls.length (nums .i64 ls)) B i .i64 ls rfl (by kernel_rfl) (by kernel_rfl) (tells_row _ _ _ _ _ _) (by kernel_rfl) (by omega) ?_)
        have hb9 : 0 ≤ ls.getD ((i).toNat) 0 ∧ ls.getD ((i).toNat) 0 < 1099511627777 := haB.at_ _
        refine RunR.sil hU [5] 2 7 [0, 2, 3, 4, 5, 6] [(0, .slice B ls.length cb), (2, pt b1), (3, pt b3), (4, .int .i64 c), (5, .int .i64 i), (6, .int .i64 (((us.getD ((i).toNat) 0) + c) + (ls.getD (i).toNat 0)))] ((-9223372036854775808 ≤ (((us.getD ((i).toNat) 0) + c) + (ls.getD (i).toNat 0)) ∧ (((us.getD ((i).toNat) 0) + c) + (ls.getD (i).toNat 0)) < 9223372036854775808) ∧ (True) ∧ True) rfl (by kernel_rfl) ⟨(by omega), trivial, trivial⟩ ?_
        refine RunR.nx ?_
        refine RunR.sil hU [2] 4 4 [0, 2, 3, 4, 5, 6, 33, 34] [(0, .slice B ls.length cb), (2, pt b1), (3, pt b3), (4, .int .i64 c), (5, .int .i64 i), (6, .int .i64 (((us.getD ((i).toNat) 0) + c) + (ls.getD (i).toNat 0))), (33, .int .i64 ((((us.getD ((i).toNat) 0) + c) + (ls.getD (i).toNat 0)) % (256 : Int))), (34, .pointer (some ⟨b3, 0 + (i).toNat * 1, none⟩))] ((True) ∧ (True) ∧ (0 ≤ (((us.getD ((i).toNat) 0) + c) + (ls.getD (i).toNat 0)) ∧ 0 < (256 : Int)) ∧ (0 ≤ i ∧ i < ((32 : Nat) : Int)) ∧ True) rfl (by kernel_rfl) ⟨trivial, trivial, (by omega), (by omega), trivial⟩ ?_
        refine RunR.st none (.store 3 (.tmp 34) (.tmp 33)) (Step.store_blknum hU 0 b3 (0 + (i).toNat * 1) 92 ((i).toNat) .i64 us ((((us.getD ((i).toNat) 0) + c) + (ls.getD (i).toNat 0)) % (256 : Int)) (by kernel_rfl) (by kernel_rfl) (by kernel_rfl) rfl (by omega) (by omega) ?_)
        have hl10 : (us.set ((i).toNat) ((((us.getD ((i).toNat) 0) + c) + (ls.getD (i).toNat 0)) % (256 : Int))).length = us.length := List.length_set
        refine RunR.nn ?_
        refine RunC.region ?_
        refine RunR.sil hU [1] 3 3 [0, 2, 3, 4, 5] [(0, .slice B ls.length cb), (2, pt b1), (3, pt b3), (4, .int .i64 ((((us.getD ((i).toNat) 0) + c) + (ls.getD (i).toNat 0)) / (256 : Int))), (5, .int .i64 i)] ((True) ∧ (0 ≤ (((us.getD ((i).toNat) 0) + c) + (ls.getD (i).toNat 0)) ∧ 0 < (256 : Int) ∧ -9223372036854775808 ≤ ((((us.getD ((i).toNat) 0) + c) + (ls.getD (i).toNat 0)) / (256 : Int)) ∧ ((((us.getD ((i).toNat) 0) + c) + (ls.getD (i).toNat 0)) / (256 : Int)) < 9223372036854775808) ∧ (True) ∧ True) rfl (by kernel_rfl) ⟨trivial, (by omega), trivial, trivial⟩ ?_
        refine RunR.dn ?_
        refine kblock_n ?_
        refine kseq_n ?_
        refine RunC.region ?_
        refine RunR.sil hU [1] 3 3 [0, 2, 3, 4, 5] [(0, .slice B ls.length cb), (2, pt b1), (3, pt b3), (4, .int .i64 ((((us.getD ((i).toNat) 0) + c) + (ls.getD (i).toNat 0)) / (256 : Int))), (5, .int .i64 (i + 1))] ((True) ∧ (-9223372036854775808 ≤ (i + 1) ∧ (i + 1) < 9223372036854775808) ∧ (True) ∧ True) rfl (by kernel_rfl) ⟨trivial, (by omega), trivial, trivial⟩ ?_
        refine RunR.dn ?_
        refine kloop_n _ [0, 2, 3, 4, 5] [0, 0, 0] [(0, .slice B ls.length cb), (2, pt b1), (3, pt b3), (4, .int .i64 ((((us.getD ((i).toNat) 0) + c) + (ls.getD (i).toNat 0)) / (256 : Int))), (5, .int .i64 (i + 1))] [blk b3 92 (nums .i64 (us.set ((i).toNat) ((((us.getD ((i).toNat) 0) + c) + (ls.getD (i).toNat 0)) % (256 : Int)))), row 3 1 (.slice B ls.length cb) ls.length (nums .i64 ls), blk b1 92 (nums .i64 (List.replicate 32 (0 : Int)))] (by kernel_rfl) (by kernel_rfl) ?_ ⟨(i + 1), (us.set ((i).toNat) ((((us.getD ((i).toNat) 0) + c) + (ls.getD (i).toNat 0)) % (256 : Int))), ((((us.getD ((i).toNat) 0) + c) + (ls.getD (i).toNat 0)) / (256 : Int)), (by omega), (by assumption), (by rw [show (i + 1).toNat = i.toNat + 1 by omega]; exact (fold_step hol (by omega) hu hc).1.1), (by rw [show (i + 1).toNat = i.toNat + 1 by omega]; exact (fold_step hol (by omega) hu hc).1.2), (by omega), (by exact In.set hu8 _ (by simp only [fits]; omega)), (by assumption), (by rw [List.length_set]; exact hul), rfl, (by rfl), (by rfl)⟩
        show ((32 - (i + 1)).toNat : Nat) < ((32 - i).toNat : Nat)
        omega
      · skip
        refine RunC.ksr ?_
        refine RunR.sil hU [2] 4 4 [0, 2, 3, 4, 5, 6, 33, 34] [(0, .slice B ls.length cb), (2, pt b1), (3, pt b3), (4, .int .i64 c), (5, .int .i64 i), (6, .int .i64 ((us.getD ((i).toNat) 0) + c)), (33, .int .i64 (((us.getD ((i).toNat) 0) + c) % (256 : Int))), (34, .pointer (some ⟨b3, 0 + (i).toNat * 1, none⟩))] ((True) ∧ (True) ∧ (0 ≤ ((us.getD ((i).toNat) 0) + c) ∧ 0 < (256 : Int)) ∧ (0 ≤ i ∧ i < ((32 : Nat) : Int)) ∧ True) rfl (by kernel_rfl) ⟨trivial, trivial, (by omega), (by omega), trivial⟩ ?_
        refine RunR.st none (.store 3 (.tmp 34) (.tmp 33)) (Step.store_blknum hU 0 b3 (0 + (i).toNat * 1) 92 ((i).toNat) .i64 us (((us.getD ((i).toNat) 0) + c) % (256 : Int)) (by kernel_rfl) (by kernel_rfl) (by kernel_rfl) rfl (by omega) (by omega) ?_)
        have hl11 : (us.set ((i).toNat) (((us.getD ((i).toNat) 0) + c) % (256 : Int))).length = us.length := List.length_set
        refine RunR.nn ?_
        refine RunC.region ?_
        refine RunR.sil hU [1] 3 3 [0, 2, 3, 4, 5] [(0, .slice B ls.length cb), (2, pt b1), (3, pt b3), (4, .int .i64 (((us.getD ((i).toNat) 0) + c) / (256 : Int))), (5, .int .i64 i)] ((True) ∧ (0 ≤ ((us.getD ((i).toNat) 0) + c) ∧ 0 < (256 : Int) ∧ -9223372036854775808 ≤ (((us.getD ((i).toNat) 0) + c) / (256 : Int)) ∧ (((us.getD ((i).toNat) 0) + c) / (256 : Int)) < 9223372036854775808) ∧ (True) ∧ True) rfl (by kernel_rfl) ⟨trivial, (by omega), trivial, trivial⟩ ?_
        refine RunR.dn ?_
        refine kblock_n ?_
        refine kseq_n ?_
        refine RunC.region ?_
        refine RunR.sil hU [1] 3 3 [0, 2, 3, 4, 5] [(0, .slice B ls.length cb), (2, pt b1), (3, pt b3), (4, .int .i64 (((us.getD ((i).toNat) 0) + c) / (256 : Int))), (5, .int .i64 (i + 1))] ((True) ∧ (-9223372036854775808 ≤ (i + 1) ∧ (i + 1) < 9223372036854775808) ∧ (True) ∧ True) rfl (by kernel_rfl) ⟨trivial, (by omega), trivial, trivial⟩ ?_
        refine RunR.dn ?_
        refine kloop_n _ [0, 2, 3, 4, 5] [0, 0, 0] [(0, .slice B ls.length cb), (2, pt b1), (3, pt b3), (4, .int .i64 (((us.getD ((i).toNat) 0) + c) / (256 : Int))), (5, .int .i64 (i + 1))] [blk b3 92 (nums .i64 (us.set ((i).toNat) (((us.getD ((i).toNat) 0) + c) % (256 : Int)))), row 3 1 (.slice B ls.length cb) ls.length (nums .i64 ls), blk b1 92 (nums .i64 (List.replicate 32 (0 : Int)))] (by kernel_rfl) (by kernel_rfl) ?_ ⟨(i + 1), (us.set ((i).toNat) (((us.getD ((i).toNat) 0) + c) % (256 : Int))), (((us.getD ((i).toNat) 0) + c) / (256 : Int)), (by omega), (by assumption), (by rw [show (i + 1).toNat = i.toNat + 1 by omega]; exact ((fold_step hol (by omega) hu hc).2 (by omega)).1), (by rw [show (i + 1).toNat = i.toNat + 1 by omega]; exact ((fold_step hol (by omega) hu hc).2 (by omega)).2), (by omega), (by exact In.set hu8 _ (by simp only [fits]; omega)), (by assumption), (by rw [List.length_set]; exact hul), rfl, (by rfl), (by rfl)⟩
        show ((32 - (i + 1)).toNat : Nat) < ((32 - i).toNat : Nat)
        omega
    · skip
      refine RunC.exit ?_
      refine kseq_e ?_
      refine kloop_e ?_
      refine kblock_e ?_
      refine kseq_n ?_
      refine RunC.sr ?_
      refine RunR.sl hU [] 1 1 [0, 2, 3, 4, 7] [(0, .slice B ls.length cb), (2, pt b1), (3, pt b3), (4, .int .i64 c), (7, .slice none 0 0)] 1 ?_
      refine RunR.nn ?_
      refine RunC.seq ?_
      refine RunC.sr ?_
      refine RunR.sl hU [] 3 3 [0, 2, 3, 4, 7, 39] [(0, .slice B ls.length cb), (2, pt b1), (3, pt b3), (4, .int .i64 c), (7, .slice none 0 0), (39, .bool (decide (((ls.length : Nat) : Int) > 32)))] 3 ?_
      refine RunR.nn ?_
      refine RunC.condp (((ls.length : Nat) : Int) > 32) (by kernel_rfl) (fun h12 => ?_) (fun h12 => ?_)
      · skip
        refine RunC.sr ?_
        refine RunR.sl hU [] 1 1 [0, 2, 3, 4, 7, 8] [(0, .slice B ls.length cb), (2, pt b1), (3, pt b3), (4, .int .i64 c), (7, .slice none 0 0), (8, .int .i64 32)] 1 ?_
        refine RunR.nn ?_
        refine RunC.block ?_
        refine RunC.turn ([row 3 1 (.slice none 0 0) 0 (nums .i64 ([] : List Int)), blk b3 92 (nums .i64 us), row 3 1 (.slice B ls.length cb) ls.length (nums .i64 ls), blk b1 92 (nums .i64 (List.replicate 32 (0 : Int)))]) (fun _ _ w hs => hs.nil_row 3 1) ?_
        refine RunC.env [0, 2, 3, 4, 7, 8] [(0, .slice B ls.length cb), (2, pt b1), (3, pt b3), (4, .int .i64 c), (7, .slice none 0 0), (8, .int .i64 32)] (by kernel_rfl) ?_
        refine RunC.only [0, 0, 0, 0] [row 3 1 (.slice none 0 0) 0 (nums .i64 ([] : List Int)), blk b3 92 (nums .i64 us), row 3 1 (.slice B ls.length cb) ls.length (nums .i64 ls), blk b1 92 (nums .i64 (List.replicate 32 (0 : Int)))] (by kernel_rfl) ?_
        refine RunC.loop (σ := Nat) (fun n_ t_ D_ => ∃ (j : Int) (C : Option Addr) (cc : Nat) (nx : List Int), (32 ≤ j) ∧ (j ≤ (ls.length : Int)) ∧ (nx = ((ls.drop 32).take (j.toNat - 32)).map (38 * ·)) ∧ (nx.length = j.toNat - 32) ∧ (Bnd 0 41781441855489 nx) ∧ (nx.length ≤ cc) ∧ (0 < nx.length → Option.isSome C = true) ∧ n_ = ((ls.length - j).toNat : Nat) ∧ t_ = [(0, .slice B ls.length cb), (2, pt b1), (3, pt b3), (4, .int .i64 c), (7, .slice C nx.length cc), (8, .int .i64 j)] ∧ D_ = [row 3 1 (.slice C nx.length cc) nx.length (nums .i64 nx), blk b3 92 (nums .i64 us), row 3 1 (.slice B ls.length cb) ls.length (nums .i64 ls), blk b1 92 (nums .i64 (List.replicate 32 (0 : Int)))]) id _ ⟨32, none, 0, ([] : List Int), (by omega), (by omega), (by simp), (by rfl), (by exact Bnd.nil (by decide) (by decide)), (by exact Nat.le_refl _), (by intro h; simp at h), rfl, rfl, rfl⟩ ?_
        rintro n_ _ _ ⟨j, C, cc, nx, hj, hj2, hnx, hnl, hni, hc_nx, hA_nx, rfl, rfl, rfl⟩
        refine RunC.seq ?_
        refine RunC.sr ?_
        refine RunR.sl hU [] 4 4 [0, 2, 3, 4, 7, 8, 43] [(0, .slice B ls.length cb), (2, pt b1), (3, pt b3), (4, .int .i64 c), (7, .slice C nx.length cc), (8, .int .i64 j), (43, .bool (decide (j < ((ls.length : Nat) : Int))))] 4 ?_
        refine RunR.nn ?_
        refine RunC.condp (j < ((ls.length : Nat) : Int)) (by kernel_rfl) (fun h13 => ?_) (fun h13 => ?_)
        · skip
          refine RunC.ks ?_
          refine RunC.seq ?_
          refine RunC.block ?_
          refine RunC.region ?_
          refine RunR.sil hU [] 4 4 [0, 2, 3, 4, 7, 8, 46, 49] [(0, .slice B ls.length cb), (2, pt b1), (3, pt b3), (4, .int .i64 c), (7, .slice C nx.length cc), (8, .int .i64 j), (46, .slice C nx.length cc), (49, .pointer (elemAt B j 1))] ((True) ∧ (True) ∧ (True) ∧ ((0 ≤ j ∧ j < ((ls.length : Nat) : Int)) ∧ Option.isSome B = true) ∧ True) rfl (by kernel_rfl) ⟨trivial, trivial, trivial, ⟨by omega, hA_ls (by omega)⟩, trivial⟩ ?_
          refine RunR.st (some 50) (.load 3 (.tmp 49)) (Step.load_num hU 2 (row 3 1 (.slice B ls.length cb) ls.length (nums .i64 ls)) B j .i64 ls rfl (by kernel_rfl) (by kernel_rfl) (tells_row _ _ _ _ _ _) (by kernel_rfl) (by omega) ?_)
          have hb14 : 0 ≤ ls.getD ((j).toNat) 0 ∧ ls.getD ((j).toNat) 0 < 1099511627777 := haB.at_ _
          refine RunR.sil hU [5] 1 6 [0, 2, 3, 4, 7, 8, 46, 51] [(0, .slice B ls.length cb), (2, pt b1), (3, pt b3), (4, .int .i64 c), (7, .slice C nx.length cc), (8, .int .i64 j), (46, .slice C nx.length cc), (51, .int .i64 (38 * (ls.getD (j).toNat 0)))] ((-9223372036854775808 ≤ (38 * (ls.getD (j).toNat 0)) ∧ (38 * (ls.getD (j).toNat 0)) < 9223372036854775808) ∧ True) rfl (by kernel_rfl) ⟨(by omega), trivial⟩ ?_
          refine RunR.st (some 52) (.buildSlice 22 1 #[(0, .tmp 51)]) (Step.lit_nums hU 3 8 .i64 (.int .i64 0) ([38 * (ls.getD (j).toNat 0)] : List Int) rfl rfl (by kernel_rfl) rfl rfl (by kernel_rfl) (fun b15 => ?_))
          have hl16 : (([38 * (ls.getD (j).toNat 0)] : List Int)).length = 1 := rfl
          have hl21 : (([38 * (ls.getD (j).toNat 0)] : List Int)).length = 1 := rfl
          refine RunR.st (some 53) (.call { callee := .builtin .append, args := #[.tmp 46, .tmp 52], argTypes := #[22, 22] }) (Step.append_nums hU 3 8 (.int .i64 0) .i64 1 0 C nx.length cc nx (some ⟨b15, 0, none⟩) 1 1 (row 3 1 (.slice (some ⟨b15, 0, none⟩) 1 1) 1 (nums .i64 ([38 * (ls.getD (j).toNat 0)] : List Int))) ([38 * (ls.getD (j).toNat 0)] : List Int) rfl rfl rfl (by kernel_rfl) (by kernel_rfl) (by kernel_rfl) (by kernel_rfl) (tells_row _ _ _ _ _ _) (by rfl) (by rfl) (by omega) (by omega) (by kernel_rfl) (fun Aq17 cq18 hc19 hA20 => ?_))
          have hl22 : (nx ++ ([38 * (ls.getD (j).toNat 0)] : List Int)).length = nx.length + ([38 * (ls.getD (j).toNat 0)] : List Int).length := List.length_append
          simp only [List.length_cons, List.length_nil] at hl22
          refine RunR.sl hU [] 1 9 [0, 2, 3, 4, 7, 8] [(0, .slice B ls.length cb), (2, pt b1), (3, pt b3), (4, .int .i64 c), (7, .slice Aq17 ((nx ++ ([38 * (ls.getD (j).toNat 0)] : List Int)).length) cq18), (8, .int .i64 j)] 1 ?_
          refine RunR.dn ?_
          refine kblock_n ?_
          refine kseq_n ?_
          refine RunC.region ?_
          refine RunR.sil hU [1] 3 3 [0, 2, 3, 4, 7, 8] [(0, .slice B ls.length cb), (2, pt b1), (3, pt b3), (4, .int .i64 c), (7, .slice Aq17 ((nx ++ ([38 * (ls.getD (j).toNat 0)] : List Int)).length) cq18), (8, .int .i64 (j + 1))] ((True) ∧ (-9223372036854775808 ≤ (j + 1) ∧ (j + 1) < 9223372036854775808) ∧ (True) ∧ True) rfl (by kernel_rfl) ⟨trivial, (by omega), trivial, trivial⟩ ?_
          refine RunR.dn ?_
          refine kloop_n _ [0, 2, 3, 4, 7, 8] [0, 1, 1, 1] [(0, .slice B ls.length cb), (2, pt b1), (3, pt b3), (4, .int .i64 c), (7, .slice Aq17 ((nx ++ ([38 * (ls.getD (j).toNat 0)] : List Int)).length) cq18), (8, .int .i64 (j + 1))] [row 3 1 (.slice Aq17 ((nx ++ ([38 * (ls.getD (j).toNat 0)] : List Int)).length) cq18) ((nx ++ ([38 * (ls.getD (j).toNat 0)] : List Int)).length) (nums .i64 (nx ++ ([38 * (ls.getD (j).toNat 0)] : List Int))), blk b3 92 (nums .i64 us), row 3 1 (.slice B ls.length cb) ls.length (nums .i64 ls), blk b1 92 (nums .i64 (List.replicate 32 (0 : Int)))] (by kernel_rfl) (by kernel_rfl) ?_ ⟨(j + 1), Aq17, cq18, (nx ++ ([38 * (ls.getD (j).toNat 0)] : List Int)), (by omega), (by assumption), (by rw [hnx, show (j + 1).toNat = j.toNat + 1 by omega]; exact nxt_step ls (by omega) (by omega)), (by rw [List.length_append]; simp only [List.length_cons, List.length_nil]; omega), (by exact hni.snoc (by omega)), (by assumption), (fun h => hA20 (by exact h)), rfl, (by rfl), (by rfl)⟩
          show ((ls.length - (j + 1)).toNat : Nat) < ((ls.length - j).toNat : Nat)
          omega
        · skip
          refine RunC.exit ?_
          refine kseq_e ?_
          refine kloop_e ?_
          refine kblock_e ?_
          refine kseq_n ?_
          refine RunC.seq ?_
          refine RunC.sr ?_
          refine RunR.sl hU [] 3 3 [0, 2, 3, 4, 7, 56] [(0, .slice B ls.length cb), (2, pt b1), (3, pt b3), (4, .int .i64 c), (7, .slice C nx.length cc), (56, .bool (decide (c > 0)))] 3 ?_
          refine RunR.ev [0, 2, 3, 4, 7, 56] [(0, .slice B ls.length cb), (2, pt b1), (3, pt b3), (4, .int .i64 c), (7, .slice C nx.length cc), (56, .bool (decide (c > 0)))] ?_
          by_cases h23 : c > 0
          · skip
            refine RunR.enveq [(0, .slice B ls.length cb), (2, pt b1), (3, pt b3), (4, .int .i64 c), (7, .slice C nx.length cc), (56, .bool true)] (by rw [decide_eq_true h23]; try rfl) ?_
            refine RunR.sl hU [] 4 7 [0, 2, 3, 4, 7, 60] [(0, .slice B ls.length cb), (2, pt b1), (3, pt b3), (4, .int .i64 c), (7, .slice C nx.length cc), (60, .bool (decide (((nx.length : Nat) : Int) = 0)))] 4 ?_
            refine RunR.nn ?_
            refine RunC.condp (((nx.length : Nat) : Int) = 0) (by kernel_rfl) (fun h24 => ?_) (fun h24 => ?_)
            · skip
              refine RunC.region ?_
              refine RunR.st (some 61) (.buildSlice 22 1 #[(0, .const (.int .i64 0))]) (Step.lit_nums hU 3 8 .i64 (.int .i64 0) ([0] : List Int) rfl rfl (by kernel_rfl) rfl rfl (by kernel_rfl) (fun b25 => ?_))
              have hl26 : (([0] : List Int)).length = 1 := rfl
              refine RunR.sl hU [] 1 2 [0, 2, 3, 4, 7] [(0, .slice B ls.length cb), (2, pt b1), (3, pt b3), (4, .int .i64 c), (7, .slice (some ⟨b25, 0, none⟩) 1 1)] 1 ?_
              refine RunR.nn ?_
              refine RunC.seq ?_
              refine RunC.sr ?_
              refine RunR.sl hU [] 2 2 [0, 2, 3, 4, 7, 63] [(0, .slice B ls.length cb), (2, pt b1), (3, pt b3), (4, .int .i64 c), (7, .slice (some ⟨b25, 0, none⟩) 1 1), (63, .bool (decide (c > 0)))] 2 ?_
              refine RunR.ev [0, 2, 3, 4, 7, 63] [(0, .slice B ls.length cb), (2, pt b1), (3, pt b3), (4, .int .i64 c), (7, .slice (some ⟨b25, 0, none⟩) 1 1), (63, .bool (decide (c > 0)))] ?_
              have hk27 : (c > 0) := by exact h23
              refine RunR.enveq [(0, .slice B ls.length cb), (2, pt b1), (3, pt b3), (4, .int .i64 c), (7, .slice (some ⟨b25, 0, none⟩) 1 1), (63, .bool true)] (by rw [decide_eq_true hk27]; try rfl) ?_
              refine RunR.nn ?_
              refine RunC.cond (b := true) (by kernel_rfl) (fun _ => ?_) (fun h => by cases h)
              refine RunC.region ?_
              refine RunR.sil hU [] 3 3 [0, 2, 3, 4, 7, 64, 66] [(0, .slice B ls.length cb), (2, pt b1), (3, pt b3), (4, .int .i64 c), (7, .slice (some ⟨b25, 0, none⟩) 1 1), (64, .slice (some ⟨b25, 0, none⟩) 1 1), (66, .pointer (elemAt (some ⟨b25, 0, none⟩) 0 1))] ((True) ∧ (True) ∧ ((0 ≤ (0 : Int) ∧ (0 : Int) < ((1 : Nat) : Int)) ∧ Option.isSome (some ⟨b25, 0, none⟩ : Option Addr) = true) ∧ True) rfl (by kernel_rfl) ⟨trivial, trivial, ⟨by omega, rfl⟩, trivial⟩ ?_
              refine RunR.st (some 67) (.load 3 (.tmp 66)) (Step.load_num hU 0 (row 3 1 (.slice (some ⟨b25, 0, none⟩) 1 1) 1 (nums .i64 ([0] : List Int))) (some ⟨b25, 0, none⟩) 0 .i64 ([0] : List Int) rfl (by kernel_rfl) (by kernel_rfl) (tells_row _ _ _ _ _ _) (by kernel_rfl) (by omega) ?_)
              refine RunR.ev [0, 2, 3, 4, 7, 64, 66, 67] [(0, .slice B ls.length cb), (2, pt b1), (3, pt b3), (4, .int .i64 c), (7, .slice (some ⟨b25, 0, none⟩) 1 1), (64, .slice (some ⟨b25, 0, none⟩) 1 1), (66, .pointer (elemAt (some ⟨b25, 0, none⟩) 0 1)), (67, .int .i64 0)] ?_
              refine RunR.sil hU [5, 6] 4 8 [0, 2, 3, 7, 70, 71] [(0, .slice B ls.length cb), (2, pt b1), (3, pt b3), (7, .slice (some ⟨b25, 0, none⟩) 1 1), (70, .int .i64 (0 + (38 * c))), (71, .pointer (elemAt (some ⟨b25, 0, none⟩) 0 1))] ((True) ∧ (-9223372036854775808 ≤ (38 * c) ∧ (38 * c) < 9223372036854775808) ∧ (-9223372036854775808 ≤ (0 + (38 * c)) ∧ (0 + (38 * c)) < 9223372036854775808) ∧ ((0 ≤ (0 : Int) ∧ (0 : Int) < ((1 : Nat) : Int)) ∧ Option.isSome (some ⟨b25, 0, none⟩ : Option Addr) = true) ∧ True) rfl (by kernel_rfl) ⟨trivial, (by omega), (by omega), ⟨by omega, rfl⟩, trivial⟩ ?_
              refine RunR.st none (.store 3 (.tmp 71) (.tmp 70)) (Step.store_num hU 0 3 1 1 (some ⟨b25, 0, none⟩) .i64 ([0] : List Int) 0 (0 + (38 * c)) (by kernel_rfl) (by kernel_rfl) (by kernel_rfl) rfl (by omega) ?_)
              have hl28 : (([0] : List Int).set (0 : Int).toNat (0 + (38 * c))).length = ([0] : List Int).length := List.length_set
              refine RunR.nn ?_
              refine RunC.region ?_
              refine RunR.sl hU [] 2 2 [0, 2, 3] [(0, .slice (some ⟨b25, 0, none⟩) 1 1), (2, pt b1), (3, pt b3)] 2 ?_
              refine RunR.dn ?_
              refine kblock_n ?_
              refine kloop_n _ [0, 2, 3] [0, 1, 2] [(0, .slice (some ⟨b25, 0, none⟩) 1 1), (2, pt b1), (3, pt b3)] [row 3 1 (.slice (some ⟨b25, 0, none⟩) 1 1) 1 (nums .i64 (([0] : List Int).set (0 : Int).toNat (0 + (38 * c)))), blk b3 92 (nums .i64 us), blk b1 92 (nums .i64 (List.replicate 32 (0 : Int)))] (by kernel_rfl) (by kernel_rfl) ?_ ⟨(some ⟨b25, 0, none⟩), 1, (([0] : List Int).set (0 : Int).toNat (0 + (38 * c))), us, (by exact (round_c (os := os) (us := us) (c := c) hol hO8 hFB (by rw [hu, show i = 32 by omega] <;> rfl) (by rw [hc, show i = 32 by omega] <;> rfl) (by omega) (by omega) (by omega)).1), (by exact (round_c (os := os) (us := us) (c := c) hol hO8 hFB (by rw [hu, show i = 32 by omega] <;> rfl) (by rw [hc, show i = 32 by omega] <;> rfl) (by omega) (by omega) (by omega)).1.bnd), (by exact (round_c (os := os) (us := us) (c := c) hol hO8 hFB (by rw [hu, show i = 32 by omega] <;> rfl) (by rw [hc, show i = 32 by omega] <;> rfl) (by omega) (by omega) (by omega)).1.len), (by exact hu8), (by exact hul), (by refine Eq.trans ?_ hT; exact (round_c (os := os) (us := us) (c := c) hol hO8 hFB (by rw [hu, show i = 32 by omega] <;> rfl) (by rw [hc, show i = 32 by omega] <;> rfl) (by omega) (by omega) (by omega)).2.1), (by exact Nat.le_refl _), (by (intro h; rfl)), rfl, (by rfl), (by rfl)⟩
              show ((leN us 32 + leN (([0] : List Int).set (0 : Int).toNat (0 + (38 * c))) (([0] : List Int).set (0 : Int).toNat (0 + (38 * c))).length).toNat + (([0] : List Int).set (0 : Int).toNat (0 + (38 * c))).length : Nat) < ((leN os 32 + leN ls ls.length).toNat + ls.length : Nat)
              exact (round_c (os := os) (us := us) (c := c) hol hO8 hFB (by rw [hu, show i = 32 by omega] <;> rfl) (by rw [hc, show i = 32 by omega] <;> rfl) (by omega) (by omega) (by omega)).2.2
            · skip
              refine RunC.ks ?_
              refine RunC.seq ?_
              refine RunC.sr ?_
              refine RunR.sl hU [] 2 2 [0, 2, 3, 4, 7, 63] [(0, .slice B ls.length cb), (2, pt b1), (3, pt b3), (4, .int .i64 c), (7, .slice C nx.length cc), (63, .bool (decide (c > 0)))] 2 ?_
              refine RunR.ev [0, 2, 3, 4, 7, 63] [(0, .slice B ls.length cb), (2, pt b1), (3, pt b3), (4, .int .i64 c), (7, .slice C nx.length cc), (63, .bool (decide (c > 0)))] ?_
              have hk29 : (c > 0) := by exact h23
              refine RunR.enveq [(0, .slice B ls.length cb), (2, pt b1), (3, pt b3), (4, .int .i64 c), (7, .slice C nx.length cc), (63, .bool true)] (by rw [decide_eq_true hk29]; try rfl) ?_
              refine RunR.nn ?_
              refine RunC.cond (b := true) (by kernel_rfl) (fun _ => ?_) (fun h => by cases h)
              refine RunC.region ?_
              refine RunR.sil hU [] 3 3 [0, 2, 3, 4, 7, 64, 66] [(0, .slice B ls.length cb), (2, pt b1), (3, pt b3), (4, .int .i64 c), (7, .slice C nx.length cc), (64, .slice C nx.length cc), (66, .pointer (elemAt C 0 1))] ((True) ∧ (True) ∧ ((0 ≤ (0 : Int) ∧ (0 : Int) < ((nx.length : Nat) : Int)) ∧ Option.isSome C = true) ∧ True) rfl (by kernel_rfl) ⟨trivial, trivial, ⟨by omega, hA_nx (by omega)⟩, trivial⟩ ?_
              refine RunR.st (some 67) (.load 3 (.tmp 66)) (Step.load_num hU 0 (row 3 1 (.slice C nx.length cc) nx.length (nums .i64 nx)) C 0 .i64 nx rfl (by kernel_rfl) (by kernel_rfl) (tells_row _ _ _ _ _ _) (by kernel_rfl) (by omega) ?_)
              have hb30 : 0 ≤ nx.getD ((0 : Int).toNat) 0 ∧ nx.getD ((0 : Int).toNat) 0 < 41781441855489 := hni.at_ _
              refine RunR.sil hU [5, 6] 4 8 [0, 2, 3, 7, 70, 71] [(0, .slice B ls.length cb), (2, pt b1), (3, pt b3), (7, .slice C nx.length cc), (70, .int .i64 ((nx.getD (0 : Int).toNat 0) + (38 * c))), (71, .pointer (elemAt C 0 1))] ((True) ∧ (-9223372036854775808 ≤ (38 * c) ∧ (38 * c) < 9223372036854775808) ∧ (-9223372036854775808 ≤ ((nx.getD (0 : Int).toNat 0) + (38 * c)) ∧ ((nx.getD (0 : Int).toNat 0) + (38 * c)) < 9223372036854775808) ∧ ((0 ≤ (0 : Int) ∧ (0 : Int) < ((nx.length : Nat) : Int)) ∧ Option.isSome C = true) ∧ True) rfl (by kernel_rfl) ⟨trivial, (by omega), (by omega), ⟨by omega, hA_nx (by omega)⟩, trivial⟩ ?_
              refine RunR.st none (.store 3 (.tmp 71) (.tmp 70)) (Step.store_num hU 0 3 nx.length cc C .i64 nx 0 ((nx.getD (0 : Int).toNat 0) + (38 * c)) (by kernel_rfl) (by kernel_rfl) (by kernel_rfl) rfl (by omega) ?_)
              have hl31 : (nx.set (0 : Int).toNat ((nx.getD (0 : Int).toNat 0) + (38 * c))).length = nx.length := List.length_set
              refine RunR.nn ?_
              refine RunC.region ?_
              refine RunR.sl hU [] 2 2 [0, 2, 3] [(0, .slice C nx.length cc), (2, pt b1), (3, pt b3)] 2 ?_
              refine RunR.dn ?_
              refine kblock_n ?_
              refine kloop_n _ [0, 2, 3] [0, 0, 1] [(0, .slice C nx.length cc), (2, pt b1), (3, pt b3)] [row 3 1 (.slice C nx.length cc) nx.length (nums .i64 (nx.set (0 : Int).toNat ((nx.getD (0 : Int).toNat 0) + (38 * c)))), blk b3 92 (nums .i64 us), blk b1 92 (nums .i64 (List.replicate 32 (0 : Int)))] (by kernel_rfl) (by kernel_rfl) ?_ ⟨C, cc, (nx.set (0 : Int).toNat ((nx.getD (0 : Int).toNat 0) + (38 * c))), us, (by exact (round_a (os := os) (us := us) (c := c) hol hO8 hFB (by rw [hu, show i = 32 by omega] <;> rfl) (by rw [hc, show i = 32 by omega] <;> rfl) (by omega) (by rw [hnx]; exact nxt_all (by omega)) (by omega)).1), (by exact (round_a (os := os) (us := us) (c := c) hol hO8 hFB (by rw [hu, show i = 32 by omega] <;> rfl) (by rw [hc, show i = 32 by omega] <;> rfl) (by omega) (by rw [hnx]; exact nxt_all (by omega)) (by omega)).1.bnd), (by exact (round_a (os := os) (us := us) (c := c) hol hO8 hFB (by rw [hu, show i = 32 by omega] <;> rfl) (by rw [hc, show i = 32 by omega] <;> rfl) (by omega) (by rw [hnx]; exact nxt_all (by omega)) (by omega)).1.len), (by exact hu8), (by exact hul), (by refine Eq.trans ?_ hT; exact (round_a (os := os) (us := us) (c := c) hol hO8 hFB (by rw [hu, show i = 32 by omega] <;> rfl) (by rw [hc, show i = 32 by omega] <;> rfl) (by omega) (by rw [hnx]; exact nxt_all (by omega)) (by omega)).2.1), (by (rw [List.length_set]; assumption)), (by (rw [List.length_set]; assumption)), rfl, (by simp only [List.length_set]), (by simp only [List.length_set])⟩
              show ((leN us 32 + leN (nx.set (0 : Int).toNat ((nx.getD (0 : Int).toNat 0) + (38 * c))) (nx.set (0 : Int).toNat ((nx.getD (0 : Int).toNat 0) + (38 * c))).length).toNat + (nx.set (0 : Int).toNat ((nx.getD (0 : Int).toNat 0) + (38 * c))).length : Nat) < ((leN os 32 + leN ls ls.length).toNat + ls.length : Nat)
              exact (round_a (os := os) (us := us) (c := c) hol hO8 hFB (by rw [hu, show i = 32 by omega] <;> rfl) (by rw [hc, show i = 32 by omega] <;> rfl) (by omega) (by rw [hnx]; exact nxt_all (by omega)) (by omega)).2.2
          · skip
            refine RunR.enveq [(0, .slice B ls.length cb), (2, pt b1), (3, pt b3), (4, .int .i64 c), (7, .slice C nx.length cc), (56, .bool false)] (by rw [decide_eq_false h23]; try rfl) ?_
            refine RunR.sl hU [] 4 7 [0, 2, 3, 4, 7, 60] [(0, .slice B ls.length cb), (2, pt b1), (3, pt b3), (4, .int .i64 c), (7, .slice C nx.length cc), (60, .bool false)] 1 ?_
            refine RunR.nn ?_
            refine RunC.cond (b := false) (by kernel_rfl) (fun h => by cases h) (fun _ => ?_)
            refine RunC.ks ?_
            refine RunC.seq ?_
            refine RunC.sr ?_
            refine RunR.sl hU [] 2 2 [0, 2, 3, 4, 7, 63] [(0, .slice B ls.length cb), (2, pt b1), (3, pt b3), (4, .int .i64 c), (7, .slice C nx.length cc), (63, .bool (decide (c > 0)))] 2 ?_
            refine RunR.ev [0, 2, 3, 4, 7, 63] [(0, .slice B ls.length cb), (2, pt b1), (3, pt b3), (4, .int .i64 c), (7, .slice C nx.length cc), (63, .bool (decide (c > 0)))] ?_
            have hk32 : ¬ (c > 0) := by exact h23
            refine RunR.enveq [(0, .slice B ls.length cb), (2, pt b1), (3, pt b3), (4, .int .i64 c), (7, .slice C nx.length cc), (63, .bool false)] (by rw [decide_eq_false hk32]; try rfl) ?_
            refine RunR.nn ?_
            refine RunC.cond (b := false) (by kernel_rfl) (fun h => by cases h) (fun _ => ?_)
            refine RunC.ks ?_
            refine RunC.region ?_
            refine RunR.sl hU [] 2 2 [0, 2, 3] [(0, .slice C nx.length cc), (2, pt b1), (3, pt b3)] 2 ?_
            refine RunR.dn ?_
            refine kblock_n ?_
            refine kloop_n _ [0, 2, 3] [0, 0, 1] [(0, .slice C nx.length cc), (2, pt b1), (3, pt b3)] [row 3 1 (.slice C nx.length cc) nx.length (nums .i64 nx), blk b3 92 (nums .i64 us), blk b1 92 (nums .i64 (List.replicate 32 (0 : Int)))] (by kernel_rfl) (by kernel_rfl) ?_ ⟨C, cc, nx, us, (by exact (round_b (os := os) (us := us) (c := c) hol hO8 hFB (by rw [hu, show i = 32 by omega] <;> rfl) (by rw [hc, show i = 32 by omega] <;> rfl) (by omega) (by rw [hnx]; exact nxt_all (by omega)) (by omega)).1), (by exact (round_b (os := os) (us := us) (c := c) hol hO8 hFB (by rw [hu, show i = 32 by omega] <;> rfl) (by rw [hc, show i = 32 by omega] <;> rfl) (by omega) (by rw [hnx]; exact nxt_all (by omega)) (by omega)).1.bnd), (by exact (round_b (os := os) (us := us) (c := c) hol hO8 hFB (by rw [hu, show i = 32 by omega] <;> rfl) (by rw [hc, show i = 32 by omega] <;> rfl) (by omega) (by rw [hnx]; exact nxt_all (by omega)) (by omega)).1.len), (by exact hu8), (by exact hul), (by refine Eq.trans ?_ hT; exact (round_b (os := os) (us := us) (c := c) hol hO8 hFB (by rw [hu, show i = 32 by omega] <;> rfl) (by rw [hc, show i = 32 by omega] <;> rfl) (by omega) (by rw [hnx]; exact nxt_all (by omega)) (by omega)).2.1), (by assumption), (by assumption), rfl, (by rfl), (by rfl)⟩
            show ((leN us 32 + leN nx nx.length).toNat + nx.length : Nat) < ((leN os 32 + leN ls ls.length).toNat + ls.length : Nat)
            exact (round_b (os := os) (us := us) (c := c) hol hO8 hFB (by rw [hu, show i = 32 by omega] <;> rfl) (by rw [hc, show i = 32 by omega] <;> rfl) (by omega) (by rw [hnx]; exact nxt_all (by omega)) (by omega)).2.2
      · skip
        refine RunC.ks ?_
        refine RunC.seq ?_
        refine RunC.sr ?_
        refine RunR.sl hU [] 3 3 [0, 2, 3, 4, 7, 56] [(0, .slice B ls.length cb), (2, pt b1), (3, pt b3), (4, .int .i64 c), (7, .slice none 0 0), (56, .bool (decide (c > 0)))] 3 ?_
        refine RunR.ev [0, 2, 3, 4, 7, 56] [(0, .slice B ls.length cb), (2, pt b1), (3, pt b3), (4, .int .i64 c), (7, .slice none 0 0), (56, .bool (decide (c > 0)))] ?_
        by_cases h33 : c > 0
        · skip
          refine RunR.enveq [(0, .slice B ls.length cb), (2, pt b1), (3, pt b3), (4, .int .i64 c), (7, .slice none 0 0), (56, .bool true)] (by rw [decide_eq_true h33]; try rfl) ?_
          refine RunR.sl hU [] 4 7 [0, 2, 3, 4, 7, 60] [(0, .slice B ls.length cb), (2, pt b1), (3, pt b3), (4, .int .i64 c), (7, .slice none 0 0), (60, .bool true)] 4 ?_
          refine RunR.nn ?_
          refine RunC.cond (b := true) (by kernel_rfl) (fun _ => ?_) (fun h => by cases h)
          refine RunC.region ?_
          refine RunR.st (some 61) (.buildSlice 22 1 #[(0, .const (.int .i64 0))]) (Step.lit_nums hU 3 8 .i64 (.int .i64 0) ([0] : List Int) rfl rfl (by kernel_rfl) rfl rfl (by kernel_rfl) (fun b34 => ?_))
          have hl35 : (([0] : List Int)).length = 1 := rfl
          refine RunR.sl hU [] 1 2 [0, 2, 3, 4, 7] [(0, .slice B ls.length cb), (2, pt b1), (3, pt b3), (4, .int .i64 c), (7, .slice (some ⟨b34, 0, none⟩) 1 1)] 1 ?_
          refine RunR.nn ?_
          refine RunC.seq ?_
          refine RunC.sr ?_
          refine RunR.sl hU [] 2 2 [0, 2, 3, 4, 7, 63] [(0, .slice B ls.length cb), (2, pt b1), (3, pt b3), (4, .int .i64 c), (7, .slice (some ⟨b34, 0, none⟩) 1 1), (63, .bool (decide (c > 0)))] 2 ?_
          refine RunR.ev [0, 2, 3, 4, 7, 63] [(0, .slice B ls.length cb), (2, pt b1), (3, pt b3), (4, .int .i64 c), (7, .slice (some ⟨b34, 0, none⟩) 1 1), (63, .bool (decide (c > 0)))] ?_
          have hk36 : (c > 0) := by exact h33
          refine RunR.enveq [(0, .slice B ls.length cb), (2, pt b1), (3, pt b3), (4, .int .i64 c), (7, .slice (some ⟨b34, 0, none⟩) 1 1), (63, .bool true)] (by rw [decide_eq_true hk36]; try rfl) ?_
          refine RunR.nn ?_
          refine RunC.cond (b := true) (by kernel_rfl) (fun _ => ?_) (fun h => by cases h)
          refine RunC.region ?_
          refine RunR.sil hU [] 3 3 [0, 2, 3, 4, 7, 64, 66] [(0, .slice B ls.length cb), (2, pt b1), (3, pt b3), (4, .int .i64 c), (7, .slice (some ⟨b34, 0, none⟩) 1 1), (64, .slice (some ⟨b34, 0, none⟩) 1 1), (66, .pointer (elemAt (some ⟨b34, 0, none⟩) 0 1))] ((True) ∧ (True) ∧ ((0 ≤ (0 : Int) ∧ (0 : Int) < ((1 : Nat) : Int)) ∧ Option.isSome (some ⟨b34, 0, none⟩ : Option Addr) = true) ∧ True) rfl (by kernel_rfl) ⟨trivial, trivial, ⟨by omega, rfl⟩, trivial⟩ ?_
          refine RunR.st (some 67) (.load 3 (.tmp 66)) (Step.load_num hU 0 (row 3 1 (.slice (some ⟨b34, 0, none⟩) 1 1) 1 (nums .i64 ([0] : List Int))) (some ⟨b34, 0, none⟩) 0 .i64 ([0] : List Int) rfl (by kernel_rfl) (by kernel_rfl) (tells_row _ _ _ _ _ _) (by kernel_rfl) (by omega) ?_)
          refine RunR.ev [0, 2, 3, 4, 7, 64, 66, 67] [(0, .slice B ls.length cb), (2, pt b1), (3, pt b3), (4, .int .i64 c), (7, .slice (some ⟨b34, 0, none⟩) 1 1), (64, .slice (some ⟨b34, 0, none⟩) 1 1), (66, .pointer (elemAt (some ⟨b34, 0, none⟩) 0 1)), (67, .int .i64 0)] ?_
          refine RunR.sil hU [5, 6] 4 8 [0, 2, 3, 7, 70, 71] [(0, .slice B ls.length cb), (2, pt b1), (3, pt b3), (7, .slice (some ⟨b34, 0, none⟩) 1 1), (70, .int .i64 (0 + (38 * c))), (71, .pointer (elemAt (some ⟨b34, 0, none⟩) 0 1))] ((True) ∧ (-9223372036854775808 ≤ (38 * c) ∧ (38 * c) < 9223372036854775808) ∧ (-9223372036854775808 ≤ (0 + (38 * c)) ∧ (0 + (38 * c)) < 9223372036854775808) ∧ ((0 ≤ (0 : Int) ∧ (0 : Int) < ((1 : Nat) : Int)) ∧ Option.isSome (some ⟨b34, 0, none⟩ : Option Addr) = true) ∧ True) rfl (by kernel_rfl) ⟨trivial, (by omega), (by omega), ⟨by omega, rfl⟩, trivial⟩ ?_
          refine RunR.st none (.store 3 (.tmp 71) (.tmp 70)) (Step.store_num hU 0 3 1 1 (some ⟨b34, 0, none⟩) .i64 ([0] : List Int) 0 (0 + (38 * c)) (by kernel_rfl) (by kernel_rfl) (by kernel_rfl) rfl (by omega) ?_)
          have hl37 : (([0] : List Int).set (0 : Int).toNat (0 + (38 * c))).length = ([0] : List Int).length := List.length_set
          refine RunR.nn ?_
          refine RunC.region ?_
          refine RunR.sl hU [] 2 2 [0, 2, 3] [(0, .slice (some ⟨b34, 0, none⟩) 1 1), (2, pt b1), (3, pt b3)] 2 ?_
          refine RunR.dn ?_
          refine kblock_n ?_
          refine kloop_n _ [0, 2, 3] [0, 0, 1] [(0, .slice (some ⟨b34, 0, none⟩) 1 1), (2, pt b1), (3, pt b3)] [row 3 1 (.slice (some ⟨b34, 0, none⟩) 1 1) 1 (nums .i64 (([0] : List Int).set (0 : Int).toNat (0 + (38 * c)))), blk b3 92 (nums .i64 us), blk b1 92 (nums .i64 (List.replicate 32 (0 : Int)))] (by kernel_rfl) (by kernel_rfl) ?_ ⟨(some ⟨b34, 0, none⟩), 1, (([0] : List Int).set (0 : Int).toNat (0 + (38 * c))), us, (by exact (round_c (os := os) (us := us) (c := c) hol hO8 hFB (by rw [hu, show i = 32 by omega] <;> rfl) (by rw [hc, show i = 32 by omega] <;> rfl) (by omega) (by omega) (by omega)).1), (by exact (round_c (os := os) (us := us) (c := c) hol hO8 hFB (by rw [hu, show i = 32 by omega] <;> rfl) (by rw [hc, show i = 32 by omega] <;> rfl) (by omega) (by omega) (by omega)).1.bnd), (by exact (round_c (os := os) (us := us) (c := c) hol hO8 hFB (by rw [hu, show i = 32 by omega] <;> rfl) (by rw [hc, show i = 32 by omega] <;> rfl) (by omega) (by omega) (by omega)).1.len), (by exact hu8), (by exact hul), (by refine Eq.trans ?_ hT; exact (round_c (os := os) (us := us) (c := c) hol hO8 hFB (by rw [hu, show i = 32 by omega] <;> rfl) (by rw [hc, show i = 32 by omega] <;> rfl) (by omega) (by omega) (by omega)).2.1), (by exact Nat.le_refl _), (by (intro h; rfl)), rfl, (by rfl), (by rfl)⟩
          show ((leN us 32 + leN (([0] : List Int).set (0 : Int).toNat (0 + (38 * c))) (([0] : List Int).set (0 : Int).toNat (0 + (38 * c))).length).toNat + (([0] : List Int).set (0 : Int).toNat (0 + (38 * c))).length : Nat) < ((leN os 32 + leN ls ls.length).toNat + ls.length : Nat)
          exact (round_c (os := os) (us := us) (c := c) hol hO8 hFB (by rw [hu, show i = 32 by omega] <;> rfl) (by rw [hc, show i = 32 by omega] <;> rfl) (by omega) (by omega) (by omega)).2.2
        · skip
          refine RunR.enveq [(0, .slice B ls.length cb), (2, pt b1), (3, pt b3), (4, .int .i64 c), (7, .slice none 0 0), (56, .bool false)] (by rw [decide_eq_false h33]; try rfl) ?_
          refine RunR.sl hU [] 4 7 [0, 2, 3, 4, 7, 60] [(0, .slice B ls.length cb), (2, pt b1), (3, pt b3), (4, .int .i64 c), (7, .slice none 0 0), (60, .bool false)] 1 ?_
          refine RunR.nn ?_
          refine RunC.cond (b := false) (by kernel_rfl) (fun h => by cases h) (fun _ => ?_)
          refine RunC.ks ?_
          refine RunC.seq ?_
          refine RunC.sr ?_
          refine RunR.sl hU [] 2 2 [0, 2, 3, 4, 7, 63] [(0, .slice B ls.length cb), (2, pt b1), (3, pt b3), (4, .int .i64 c), (7, .slice none 0 0), (63, .bool (decide (c > 0)))] 2 ?_
          refine RunR.ev [0, 2, 3, 4, 7, 63] [(0, .slice B ls.length cb), (2, pt b1), (3, pt b3), (4, .int .i64 c), (7, .slice none 0 0), (63, .bool (decide (c > 0)))] ?_
          have hk38 : ¬ (c > 0) := by exact h33
          refine RunR.enveq [(0, .slice B ls.length cb), (2, pt b1), (3, pt b3), (4, .int .i64 c), (7, .slice none 0 0), (63, .bool false)] (by rw [decide_eq_false hk38]; try rfl) ?_
          refine RunR.nn ?_
          refine RunC.cond (b := false) (by kernel_rfl) (fun h => by cases h) (fun _ => ?_)
          refine RunC.ks ?_
          refine RunC.region ?_
          refine RunR.sl hU [] 2 2 [0, 2, 3] [(0, .slice none 0 0), (2, pt b1), (3, pt b3)] 2 ?_
          refine RunR.dn ?_
          refine kblock_n ?_
          refine kloop_nt ([row 3 1 (.slice none 0 0) 0 (nums .i64 ([] : List Int)), blk b3 92 (nums .i64 us), row 3 1 (.slice B ls.length cb) ls.length (nums .i64 ls), blk b1 92 (nums .i64 (List.replicate 32 (0 : Int)))]) (fun w0 W w hs => hs.nil_row 3 1) _ [0, 2, 3] [0, 0, 1] [(0, .slice none 0 0), (2, pt b1), (3, pt b3)] [row 3 1 (.slice none 0 0) 0 (nums .i64 ([] : List Int)), blk b3 92 (nums .i64 us), blk b1 92 (nums .i64 (List.replicate 32 (0 : Int)))] (by kernel_rfl) (by kernel_rfl) ?_ ⟨none, 0, ([] : List Int), us, (by exact (round_d (os := os) (us := us) (c := c) hol hO8 hFB (by rw [hu, show i = 32 by omega] <;> rfl) (by rw [hc, show i = 32 by omega] <;> rfl) (by omega) (by omega) (by omega)).1), (by exact (round_d (os := os) (us := us) (c := c) hol hO8 hFB (by rw [hu, show i = 32 by omega] <;> rfl) (by rw [hc, show i = 32 by omega] <;> rfl) (by omega) (by omega) (by omega)).1.bnd), (by exact (round_d (os := os) (us := us) (c := c) hol hO8 hFB (by rw [hu, show i = 32 by omega] <;> rfl) (by rw [hc, show i = 32 by omega] <;> rfl) (by omega) (by omega) (by omega)).1.len), (by exact hu8), (by exact hul), (by refine Eq.trans ?_ hT; exact (round_d (os := os) (us := us) (c := c) hol hO8 hFB (by rw [hu, show i = 32 by omega] <;> rfl) (by rw [hc, show i = 32 by omega] <;> rfl) (by omega) (by omega) (by omega)).2.1), (by exact Nat.le_refl _), (by (intro h; simp at h)), rfl, (by rfl), (by rfl)⟩
          show ((leN us 32 + leN ([] : List Int) ([] : List Int).length).toNat + ([] : List Int).length : Nat) < ((leN os 32 + leN ls ls.length).toNat + ls.length : Nat)
          exact (round_d (os := os) (us := us) (c := c) hol hO8 hFB (by rw [hu, show i = 32 by omega] <;> rfl) (by rw [hc, show i = 32 by omega] <;> rfl) (by omega) (by omega) (by omega)).2.2
  · skip
    refine RunC.exit ?_
    refine kseq_e ?_
    refine kloop_e ?_
    refine kblock_e ?_
    refine kseq_n ?_
    refine RunC.sr ?_
    refine RunR.st (some 73) (.load 92 (.tmp 3)) (Step.load_arr hU 1 b3 92 32 .i64 os (by kernel_rfl) (by kernel_rfl) (by kernel_rfl) (by kernel_rfl) (by omega) (by kernel_rfl) ?_)
    refine RunR.st none (.store 92 (.tmp 2) (.tmp 73)) (Step.store_arr hU 2 b1 92 32 .i64 (List.replicate 32 (0 : Int)) os (by kernel_rfl) (by kernel_rfl) (by kernel_rfl) (by kernel_rfl) (by rfl) (by omega) ?_)
    refine RunR.nn ?_
    refine RunC.ret ?_
    refine kret_r [ag .i64 os] [] [] ⟨⟨0, b1, 0, 92, nums .i64 os, rfl, rfl, (loadv_arr (U := U) (n := 32) (by kernel_rfl) (by kernel_rfl) (by omega))⟩, trivial⟩ (by kernel_rfl) rfl ⟨os, (leN os 32), rfl, rfl, (by exact Dg.of hol hO8 rfl), (by rw [← hT, show ls.length = 0 by omega]; simp [leN]), (by assumption)⟩
end Go.Proofs.Ytaaplakahkgclaa.Y4
