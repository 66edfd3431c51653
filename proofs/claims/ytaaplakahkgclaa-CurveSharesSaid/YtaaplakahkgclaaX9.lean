/- What these functions compute: a contract for each, walked through its code. -/
import Derived.Test.YtaaplakahkgclaaSLzh
import Derived.Test.YtaaplakahkgclaaKPure
import Derived.Test.YtaaplakahkgclaaProg
import Derived.Test.YtaaplakahkgclaaX1
import Derived.Test.YtaaplakahkgclaaX2
import Derived.Test.YtaaplakahkgclaaX3
import Derived.Test.YtaaplakahkgclaaX4
import Derived.Test.YtaaplakahkgclaaX5
import Derived.Test.YtaaplakahkgclaaX6
import Derived.Test.YtaaplakahkgclaaX7
import Derived.Test.YtaaplakahkgclaaX8
namespace Go.Proofs.Ytaaplakahkgclaa.X9
open Go Go.Proofs.Ytaaplakahkgclaa.SL Go.Proofs.Ytaaplakahkgclaa.SL.W Go.Proofs.Ytaaplakahkgclaa.SL.F Go.Proofs.Ytaaplakahkgclaa.SL.N Go.Proofs.Ytaaplakahkgclaa.SL.E Go.Proofs.Ytaaplakahkgclaa.SL.K Go.Proofs.Ytaaplakahkgclaa.X1 Go.Proofs.Ytaaplakahkgclaa.X2 Go.Proofs.Ytaaplakahkgclaa.X3 Go.Proofs.Ytaaplakahkgclaa.X4 Go.Proofs.Ytaaplakahkgclaa.X5 Go.Proofs.Ytaaplakahkgclaa.X6 Go.Proofs.Ytaaplakahkgclaa.X7 Go.Proofs.Ytaaplakahkgclaa.X8
set_option linter.unusedVariables false
set_option linter.unusedSimpArgs false
set_option maxRecDepth 100000
set_option maxHeartbeats 40000000
def U : Tab where
  und := [(3, .int .i64), (86, .int .u64), (87, .array 5 86), (88, .struct #[{ name := "n", type := 87, offset := 0, embedded := false, tag := "", pkgPath := "orlop/field", byteOffset := 0 }]), (89, .struct #[{ name := "n", type := 87, offset := 0, embedded := false, tag := "", pkgPath := "orlop/field", byteOffset := 0 }]), (96, .int .u32)]
  fld := [((88, 0), (0, 87)), ((89, 0), (0, 87))]
  sz := [(3, 1), (86, 1), (87, 5), (88, 5), (89, 5), (96, 1)]
  ti := [(3, (1, 8, .int .i64 0)), (86, (1, 8, .int .u64 0)), (87, (5, 40, z5)), (88, (5, 40, z5)), (89, (5, 40, z5)), (96, (1, 4, .int .u32 0))]
  bld := [(88, [(0, 5)]), (89, [(0, 5)])]

theorem hU : U.OK Try.prog where
  und := by
    intro p hp
    simp only [U, List.mem_cons, List.not_mem_nil, or_false] at hp
    rcases hp with rfl | rfl | rfl | rfl | rfl | rfl
    · exact Try.underlying3
    · exact Try.underlying86
    · exact Try.underlying87
    · exact Try.underlying88
    · exact Try.underlying89
    · exact Try.underlying96
  fld := by
    intro p hp
    simp only [U, List.mem_cons, List.not_mem_nil, or_false] at hp
    rcases hp with rfl | rfl
    · exact ⟨_, _, Try.underlying88, rfl, rfl, rfl, Try.prog.types[87]!, by kernel_rfl, by decide +kernel⟩
    · exact ⟨_, _, Try.underlying89, rfl, rfl, rfl, Try.prog.types[87]!, by kernel_rfl, by decide +kernel⟩
  sz := by
    intro p hp
    simp only [U, List.mem_cons, List.not_mem_nil, or_false] at hp
    rcases hp with rfl | rfl | rfl | rfl | rfl | rfl
    · exact ⟨Try.prog.types[3]!, by kernel_rfl, by kernel_rfl⟩
    · exact ⟨Try.prog.types[86]!, by kernel_rfl, by kernel_rfl⟩
    · exact ⟨Try.prog.types[87]!, by kernel_rfl, by kernel_rfl⟩
    · exact ⟨Try.prog.types[88]!, by kernel_rfl, by kernel_rfl⟩
    · exact ⟨Try.prog.types[89]!, by kernel_rfl, by kernel_rfl⟩
    · exact ⟨Try.prog.types[96]!, by kernel_rfl, by kernel_rfl⟩
  ti := by
    intro p hp
    simp only [U, List.mem_cons, List.not_mem_nil, or_false] at hp
    rcases hp with rfl | rfl | rfl | rfl | rfl | rfl
    · exact ⟨Try.prog.types[3]!, by kernel_rfl, by kernel_rfl, by kernel_rfl, by kernel_rfl⟩
    · exact ⟨Try.prog.types[86]!, by kernel_rfl, by kernel_rfl, by kernel_rfl, by kernel_rfl⟩
    · exact ⟨Try.prog.types[87]!, by kernel_rfl, by kernel_rfl, by kernel_rfl, by kernel_rfl⟩
    · exact ⟨Try.prog.types[88]!, by kernel_rfl, by kernel_rfl, by kernel_rfl, by kernel_rfl⟩
    · exact ⟨Try.prog.types[89]!, by kernel_rfl, by kernel_rfl, by kernel_rfl, by kernel_rfl⟩
    · exact ⟨Try.prog.types[96]!, by kernel_rfl, by kernel_rfl, by kernel_rfl, by kernel_rfl⟩
  bld := by
    intro p hp
    simp only [U, List.mem_cons, List.not_mem_nil, or_false] at hp
    rcases hp with rfl | rfl
    · exact ⟨_, Try.underlying88, by kernel_rfl⟩
    · exact ⟨_, Try.underlying89, by kernel_rfl⟩
  mixed := by kernel_rfl

theorem f_Square_spec (xs : List Int) (v : Int) (hE : El xs v) (hl : xs.length = 5) :
    CallsS Try.prog 91 [ag .u64 xs] [] (fun r D => ∃ (zs : List Int), r = ag .u64 zs ∧ D = [] ∧ (El zs ((v * v) % P)) ∧ (zs.length = 5)) := by
  refine CallsS.enter hU Try.f91 _ [.cell 2 89] 6 Try.func91 rfl (by decide) rfl rfl (by kernel_rfl) fun w0 W => ?_
  refine RunC.sr ?_
  refine RunR.st (some 1) (.box 89 (.tmp 0)) (Step.box (ag .u64 xs) (by kernel_rfl) (by kernel_rfl) (fun b1 => ?_))
  refine RunR.st (some 2) (.alloc 89) (Step.al hU 5 40 z5 (fun b2 => ?_))
  have hl3 : (List.replicate 5 (0 : Int)).length = 5 := List.length_replicate
  refine RunR.nx ?_
  refine RunR.st (some 3) (.load 89 (.tmp 1)) (Step.load_blk hU 1 b1 (0) 89 (nums .u64 xs) (ag .u64 xs) (by kernel_rfl) (by kernel_rfl) (loadv_seg (n := 5) (by kernel_rfl) (by kernel_rfl) (Seg.all _) (by simp only [List.length_append, nums_length, List.length_cons, List.length_nil] <;> omega)) (by kernel_rfl) ?_)
  refine RunR.st (some 4) (.load 89 (.tmp 1)) (Step.load_blk hU 1 b1 (0) 89 (nums .u64 xs) (ag .u64 xs) (by kernel_rfl) (by kernel_rfl) (loadv_seg (n := 5) (by kernel_rfl) (by kernel_rfl) (Seg.all _) (by simp only [List.length_append, nums_length, List.length_cons, List.length_nil] <;> omega)) (by kernel_rfl) ?_)
  refine RunR.st (some 5) (.call { callee := .value (.func 75), args := #[.tmp 3, .tmp 4], argTypes := #[89, 89] }) (Step.cn 75 [ag .u64 xs, ag .u64 xs] [] [blk b2 89 (nums .u64 (List.replicate 5 (0 : Int))), blk b1 89 (nums .u64 xs)] (f_Mul_spec xs v xs v (by assumption) (by assumption) (by assumption) (by assumption)) [] ?_)
  rintro _ _ ⟨zs4, rfl, rfl, hp5, hp6⟩
  refine RunR.st none (.store 89 (.tmp 2) (.tmp 5)) (Step.ss hU 0 b2 (0) 89 (nums .u64 (List.replicate 5 (0 : Int))) (nums .u64 zs4) (nums .u64 zs4) (ag .u64 zs4) 5 (by (simp only [List.length_append, nums_length, List.length_cons, List.length_nil, List.length_replicate]; omega)) (show Put _ 0 _ _ from Put.all (by simp only [List.length_append, nums_length, List.length_cons, List.length_nil, List.length_replicate] <;> omega)) ?_)
  refine RunR.nn ?_
  refine RunC.ret ?_
  refine kret_r [ag .u64 zs4] [] [] ⟨⟨0, b2, 0, 89, nums .u64 zs4, rfl, rfl, (loadv_seg (U := U) (n := 5) (by kernel_rfl) (by kernel_rfl) (Seg.all _) (by simp only [List.length_append, nums_length, List.length_cons, List.length_nil] <;> omega))⟩, trivial⟩ (by kernel_rfl) rfl ⟨zs4, rfl, rfl, (by assumption), (by assumption)⟩

theorem f_Times_spec (xs : List Int) (v : Int) (n : Int) (hE : El xs v) (hl : xs.length = 5) (hn : fits .u32 n) :
    CallsS Try.prog 92 [ag .u64 xs, .int .u32 n] [] (fun r D => ∃ (zs : List Int), r = ag .u64 zs ∧ D = [] ∧ (El zs ((v * n) % P)) ∧ (zs.length = 5)) := by
  refine CallsS.enter hU Try.f92 _ [.cell 4 89] 11 Try.func92 rfl (by decide) rfl rfl (by kernel_rfl) fun w0 W => ?_
  have hn2 := hn; simp only [fits] at hn2
  refine RunC.sr ?_
  refine RunR.st (some 2) (.box 89 (.tmp 0)) (Step.box (ag .u64 xs) (by kernel_rfl) (by kernel_rfl) (fun b1 => ?_))
  refine RunR.st (some 4) (.alloc 89) (Step.al hU 5 40 z5 (fun b2 => ?_))
  have hl3 : (List.replicate 5 (0 : Int)).length = 5 := List.length_replicate
  refine RunR.nx ?_
  refine RunR.st (some 5) (.load 89 (.tmp 2)) (Step.load_blk hU 1 b1 (0) 89 (nums .u64 xs) (ag .u64 xs) (by kernel_rfl) (by kernel_rfl) (loadv_seg (n := 5) (by kernel_rfl) (by kernel_rfl) (Seg.all _) (by simp only [List.length_append, nums_length, List.length_cons, List.length_nil] <;> omega)) (by kernel_rfl) ?_)
  refine RunR.sil hU [2] 4 5 [4, 5, 9] [(4, pt b2), (5, ag .u64 xs), (9, .agg (nums .u64 ([n, 0, 0, 0, 0] : List Int)).toArray)] ((True) ∧ (0 ≤ n ∧ n < 18446744073709551616) ∧ (True) ∧ (True) ∧ True) rfl (by kernel_rfl) ⟨trivial, (by omega), trivial, trivial, trivial⟩ ?_
  refine RunR.st (some 10) (.call { callee := .value (.func 75), args := #[.tmp 5, .tmp 9], argTypes := #[89, 89] }) (Step.cn 75 [ag .u64 xs, .agg (nums .u64 ([n, 0, 0, 0, 0] : List Int)).toArray] [] [blk b2 89 (nums .u64 (List.replicate 5 (0 : Int))), blk b1 89 (nums .u64 xs)] (f_Mul_spec xs v ([n, 0, 0, 0, 0] : List Int) n (by assumption) (by assumption) (by exact small_el hn) (by rfl)) [] ?_)
  rintro _ _ ⟨zs4, rfl, rfl, hp5, hp6⟩
  refine RunR.st none (.store 89 (.tmp 4) (.tmp 10)) (Step.ss hU 0 b2 (0) 89 (nums .u64 (List.replicate 5 (0 : Int))) (nums .u64 zs4) (nums .u64 zs4) (ag .u64 zs4) 5 (by (simp only [List.length_append, nums_length, List.length_cons, List.length_nil, List.length_replicate]; omega)) (show Put _ 0 _ _ from Put.all (by simp only [List.length_append, nums_length, List.length_cons, List.length_nil, List.length_replicate] <;> omega)) ?_)
  refine RunR.nn ?_
  refine RunC.ret ?_
  refine kret_r [ag .u64 zs4] [] [] ⟨⟨0, b2, 0, 89, nums .u64 zs4, rfl, rfl, (loadv_seg (U := U) (n := 5) (by kernel_rfl) (by kernel_rfl) (Seg.all _) (by simp only [List.length_append, nums_length, List.length_cons, List.length_nil] <;> omega))⟩, trivial⟩ (by kernel_rfl) rfl ⟨zs4, rfl, rfl, (by assumption), (by assumption)⟩

theorem f_squares_spec (xs : List Int) (v : Int) (n : Int) (hE : El xs v) (hl : xs.length = 5) (hn : 0 ≤ n) (hn2 : n ≤ 1000) :
    CallsS Try.prog 97 [ag .u64 xs, .int .i64 n] [] (fun r D => ∃ (zs : List Int), r = ag .u64 zs ∧ D = [] ∧ (El zs (pw v (2 ^ n.toNat))) ∧ (zs.length = 5)) := by
  refine CallsS.enter hU Try.f97 _ [.cell 4 89] 12 Try.func97 rfl (by decide) rfl rfl (by kernel_rfl) fun w0 W => ?_
  refine RunC.sr ?_
  refine RunR.st (some 2) (.box 89 (.tmp 0)) (Step.box (ag .u64 xs) (by kernel_rfl) (by kernel_rfl) (fun b1 => ?_))
  refine RunR.st (some 4) (.alloc 89) (Step.al hU 5 40 z5 (fun b2 => ?_))
  have hl3 : (List.replicate 5 (0 : Int)).length = 5 := List.length_replicate
  refine RunR.nn ?_
  refine RunC.seq ?_
  refine RunC.sr ?_
  refine RunR.sl hU [] 2 2 [2, 4, 5, 6] [(2, pt b1), (4, pt b2), (5, .int .i64 n), (6, .int .i64 0)] 2 ?_
  refine RunR.nn ?_
  refine RunC.block ?_
  refine RunC.env [2, 4, 5, 6] [(2, pt b1), (4, pt b2), (5, .int .i64 n), (6, .int .i64 0)] (by kernel_rfl) ?_
  refine RunC.only [1, 0] [blk b1 89 (nums .u64 xs), blk b2 89 (nums .u64 (List.replicate 5 (0 : Int)))] (by kernel_rfl) ?_
  refine RunC.loop (σ := Nat) (fun n_ t_ D_ => ∃ (i : Int) (os : List Int), (0 ≤ i) ∧ (i ≤ n) ∧ (El os (pw v (2 ^ i.toNat))) ∧ (os.length = 5) ∧ n_ = ((n - i).toNat : Nat) ∧ t_ = [(2, pt b1), (4, pt b2), (5, .int .i64 n), (6, .int .i64 i)] ∧ D_ = [blk b1 89 (nums .u64 os), blk b2 89 (nums .u64 (List.replicate 5 (0 : Int)))]) id _ ⟨0, xs, (by omega), (by assumption), (by exact el_pw1 hE), (by assumption), rfl, rfl, rfl⟩ ?_
  rintro n_ _ _ ⟨i, os, hi, hin, hO, hol, rfl, rfl, rfl⟩
  refine RunC.sr ?_
  refine RunR.sl hU [] 1 1 [2, 4, 5, 6, 7] [(2, pt b1), (4, pt b2), (5, .int .i64 n), (6, .int .i64 i), (7, .bool (decide (i < n)))] 1 ?_
  refine RunR.nn ?_
  refine RunC.seq ?_
  refine RunC.condp (i < n) (by kernel_rfl) (fun h4 => ?_) (fun h4 => ?_)
  · skip
    refine RunC.ks ?_
    refine RunC.seq ?_
    refine RunC.block ?_
    refine RunC.region ?_
    refine RunR.st (some 8) (.load 89 (.tmp 2)) (Step.load_blk hU 0 b1 (0) 89 (nums .u64 os) (ag .u64 os) (by kernel_rfl) (by kernel_rfl) (loadv_seg (n := 5) (by kernel_rfl) (by kernel_rfl) (Seg.all _) (by simp only [List.length_append, nums_length, List.length_cons, List.length_nil] <;> omega)) (by kernel_rfl) ?_)
    refine RunR.st (some 9) (.call { callee := .value (.func 91), args := #[.tmp 8], argTypes := #[89] }) (Step.cn 91 [ag .u64 os] [] [blk b1 89 (nums .u64 os), blk b2 89 (nums .u64 (List.replicate 5 (0 : Int)))] (f_Square_spec os (pw v (2 ^ i.toNat)) (by assumption) (by assumption)) [] ?_)
    rintro _ _ ⟨zs5, rfl, rfl, hp6, hp7⟩
    refine RunR.st none (.store 89 (.tmp 2) (.tmp 9)) (Step.ss hU 0 b1 (0) 89 (nums .u64 os) (nums .u64 zs5) (nums .u64 zs5) (ag .u64 zs5) 5 (by (simp only [List.length_append, nums_length, List.length_cons, List.length_nil, List.length_replicate]; omega)) (show Put _ 0 _ _ from Put.all (by simp only [List.length_append, nums_length, List.length_cons, List.length_nil, List.length_replicate] <;> omega)) ?_)
    refine RunR.dn ?_
    refine kblock_n ?_
    refine kseq_n ?_
    refine RunC.region ?_
    refine RunR.sil hU [0] 2 2 [2, 4, 5, 6] [(2, pt b1), (4, pt b2), (5, .int .i64 n), (6, .int .i64 (i + 1))] ((-9223372036854775808 ≤ (i + 1) ∧ (i + 1) < 9223372036854775808) ∧ (True) ∧ True) rfl (by kernel_rfl) ⟨(by omega), trivial, trivial⟩ ?_
    refine RunR.dn ?_
    refine kloop_n _ [2, 4, 5, 6] [0, 0] [(2, pt b1), (4, pt b2), (5, .int .i64 n), (6, .int .i64 (i + 1))] [blk b1 89 (nums .u64 zs5), blk b2 89 (nums .u64 (List.replicate 5 (0 : Int)))] (by kernel_rfl) (by kernel_rfl) ?_ ⟨(i + 1), zs5, (by omega), (by assumption), (by refine el_cast (by assumption) ?_; rw [show (i + 1).toNat = i.toNat + 1 by omega, pw_mul, Nat.pow_succ, Nat.mul_two]), (by assumption), rfl, (by rfl), (by rfl)⟩
    show ((n - (i + 1)).toNat : Nat) < ((n - i).toNat : Nat)
    omega
  · skip
    refine RunC.exit ?_
    refine kseq_e ?_
    refine kloop_e ?_
    refine kblock_e ?_
    refine kseq_n ?_
    refine RunC.sr ?_
    refine RunR.st (some 11) (.load 89 (.tmp 2)) (Step.load_blk hU 0 b1 (0) 89 (nums .u64 os) (ag .u64 os) (by kernel_rfl) (by kernel_rfl) (loadv_seg (n := 5) (by kernel_rfl) (by kernel_rfl) (Seg.all _) (by simp only [List.length_append, nums_length, List.length_cons, List.length_nil] <;> omega)) (by kernel_rfl) ?_)
    refine RunR.st none (.store 89 (.tmp 4) (.tmp 11)) (Step.ss hU 1 b2 (0) 89 (nums .u64 (List.replicate 5 (0 : Int))) (nums .u64 os) (nums .u64 os) (ag .u64 os) 5 (by (simp only [List.length_append, nums_length, List.length_cons, List.length_nil, List.length_replicate]; omega)) (show Put _ 0 _ _ from Put.all (by simp only [List.length_append, nums_length, List.length_cons, List.length_nil, List.length_replicate] <;> omega)) ?_)
    refine RunR.nn ?_
    refine RunC.ret ?_
    refine kret_r [ag .u64 os] [] [] ⟨⟨0, b2, 0, 89, nums .u64 os, rfl, rfl, (loadv_seg (U := U) (n := 5) (by kernel_rfl) (by kernel_rfl) (Seg.all _) (by simp only [List.length_append, nums_length, List.length_cons, List.length_nil] <;> omega))⟩, trivial⟩ (by kernel_rfl) rfl ⟨os, rfl, rfl, (by rw [show n = i by omega]; exact hO), (by exact hol)⟩

theorem f_Swap_spec (b : Int) (xs : List Int) (v : Int) (ys : List Int) (w : Int) (hb : fits .u64 b) (hE : El xs v) (hl : xs.length = 5) (hF : El ys w) (hm : ys.length = 5) :
    CallsS Try.prog 88 [.int .u64 b, ag .u64 xs, ag .u64 ys] [] (fun r D => ∃ (zs : List Int) (us : List Int), r = .tuple #[ag .u64 zs, ag .u64 us] ∧ D = [] ∧ (El zs (swv b v w)) ∧ (El us (swv b w v)) ∧ (zs.length = 5) ∧ (us.length = 5)) := by
  refine CallsS.enter hU Try.f88 _ [.cell 6 89, .cell 7 89] 47 Try.func88 rfl (by decide) rfl rfl (by kernel_rfl) fun w0 W => ?_
  have hx : In .u64 xs := hE.lim.inn (by decide)
  have hy : In .u64 ys := hF.lim.inn (by decide)
  refine RunC.sr ?_
  refine RunR.st (some 4) (.box 89 (.tmp 1)) (Step.box (ag .u64 xs) (by kernel_rfl) (by kernel_rfl) (fun b1 => ?_))
  refine RunR.st (some 5) (.box 89 (.tmp 2)) (Step.box (ag .u64 ys) (by kernel_rfl) (by kernel_rfl) (fun b2 => ?_))
  refine RunR.st (some 6) (.alloc 89) (Step.al hU 5 40 z5 (fun b3 => ?_))
  have hl4 : (List.replicate 5 (0 : Int)).length = 5 := List.length_replicate
  refine RunR.st (some 7) (.alloc 89) (Step.al hU 5 40 z5 (fun b5 => ?_))
  have hl6 : (List.replicate 5 (0 : Int)).length = 5 := List.length_replicate
  refine RunR.nx ?_
  have hm7 := and_le .u64 rfl b 1 (by decide) (by decide)
  refine RunR.sl hU [] 4 4 [4, 5, 6, 7, 8] [(4, pt b1), (5, pt b2), (6, pt b3), (7, pt b5), (8, .int .u64 (IntKind.wrap .u64 (0 - (bits2 .and .u64 b 1))))] 4 ?_
  refine RunR.nn ?_
  refine RunC.seq ?_
  refine RunC.sr ?_
  refine RunR.sl hU [] 1 1 [4, 5, 6, 7, 8, 14] [(4, pt b1), (5, pt b2), (6, pt b3), (7, pt b5), (8, .int .u64 (IntKind.wrap .u64 (0 - (bits2 .and .u64 b 1)))), (14, .int .i64 0)] 1 ?_
  refine RunR.nn ?_
  refine RunC.block ?_
  refine RunC.env [4, 5, 6, 7, 8, 14] [(4, pt b1), (5, pt b2), (6, pt b3), (7, pt b5), (8, .int .u64 (IntKind.wrap .u64 (0 - (bits2 .and .u64 b 1)))), (14, .int .i64 0)] (by kernel_rfl) ?_
  refine RunC.only [3, 2, 0, 0] [blk b1 89 (nums .u64 xs), blk b2 89 (nums .u64 ys), blk b5 89 (nums .u64 (List.replicate 5 (0 : Int))), blk b3 89 (nums .u64 (List.replicate 5 (0 : Int)))] (by kernel_rfl) ?_
  refine RunC.loop (σ := Nat) (fun n_ t_ D_ => ∃ (i : Int) (os : List Int) (us : List Int), (0 ≤ i) ∧ (i ≤ 5) ∧ (os = mapP (fun i => if b % 2 = 1 then ys.getD i 0 else xs.getD i 0) xs i.toNat) ∧ (us = mapP (fun i => if b % 2 = 1 then xs.getD i 0 else ys.getD i 0) ys i.toNat) ∧ (os.length = 5) ∧ (us.length = 5) ∧ n_ = ((5 - i).toNat : Nat) ∧ t_ = [(4, pt b1), (5, pt b2), (6, pt b3), (7, pt b5), (8, .int .u64 (IntKind.wrap .u64 (0 - (bits2 .and .u64 b 1)))), (14, .int .i64 i)] ∧ D_ = [blk b1 89 (nums .u64 os), blk b2 89 (nums .u64 us), blk b5 89 (nums .u64 (List.replicate 5 (0 : Int))), blk b3 89 (nums .u64 (List.replicate 5 (0 : Int)))]) id _ ⟨0, xs, ys, (by omega), (by omega), (by rfl), (by rfl), (by exact hl), (by exact hm), rfl, rfl, rfl⟩ ?_
  rintro n_ _ _ ⟨i, os, us, hi, hi5, ho, hu, hol, hul, rfl, rfl, rfl⟩
  refine RunC.sr ?_
  refine RunR.sl hU [] 1 1 [4, 5, 6, 7, 8, 14, 15] [(4, pt b1), (5, pt b2), (6, pt b3), (7, pt b5), (8, .int .u64 (IntKind.wrap .u64 (0 - (bits2 .and .u64 b 1)))), (14, .int .i64 i), (15, .bool (decide (i < 5)))] 1 ?_
  refine RunR.nn ?_
  refine RunC.seq ?_
  refine RunC.condp (i < 5) (by kernel_rfl) (fun h8 => ?_) (fun h8 => ?_)
  · skip
    refine RunC.ks ?_
    refine RunC.seq ?_
    refine RunC.block ?_
    refine RunC.sr ?_
    refine RunR.sl hU [] 2 2 [4, 5, 6, 7, 8, 9, 14] [(4, pt b1), (5, pt b2), (6, pt b3), (7, pt b5), (8, .int .u64 (IntKind.wrap .u64 (0 - (bits2 .and .u64 b 1)))), (9, .int .i64 i), (14, .int .i64 i)] 2 ?_
    refine RunR.nn ?_
    refine RunC.seq ?_
    refine RunC.regionU hU 12 [blk b1 89 (nums .u64 os), blk b2 89 (nums .u64 us)] [0, 1] [11] (bm 12 0) (by kernel_rfl) (by kernel_rfl) (by kernel_rfl) ?_
    refine RunU.sl hU 0 (bm 12 1) 17 (.int .u64 (IntKind.wrap .u64 (0 - (bits2 .and .u64 b 1)))) ?_
    refine RunU.sl hU 1 (bm 12 3) 18 (.int .i64 i) ?_
    refine RunU.sl hU 2 (bm 12 7) 19 (pt b1) ?_
    refine RunU.sil hU false 3 (bm 12 15) 20 (.pointer (some ⟨b1, 0 + (i).toNat * 1, none⟩)) (0 ≤ i ∧ i < ((5 : Nat) : Int)) (by kernel_rfl) (by omega) (by kernel_rfl) (by kernel_rfl) (fun _ _ _ h => h) ?_
    refine RunU.rd 4 (bm 12 31) 21 (.load 86 (.tmp 20)) (.int .u64 (os.getD ((i).toNat) 0)) [0, 1] (Reads.load_blk hU 0 b1 (0 + (i).toNat * 1) 89 (nums .u64 os) (.int .u64 (os.getD ((i).toNat) 0)) (by kernel_rfl) (by kernel_rfl) (loadv_one (by kernel_rfl) (Seg.elem (i := (i).toNat) (show Seg _ 0 _ from Seg.all _) (by omega) (by omega)))) ?_
    refine RunU.sl hU 5 (bm 12 63) 22 (.int .i64 i) ?_
    refine RunU.sl hU 6 (bm 12 127) 23 (pt b2) ?_
    refine RunU.sil hU false 7 (bm 12 255) 24 (.pointer (some ⟨b2, 0 + (i).toNat * 1, none⟩)) (0 ≤ i ∧ i < ((5 : Nat) : Int)) (by kernel_rfl) (by omega) (by kernel_rfl) (by kernel_rfl) (fun _ _ _ h => h) ?_
    refine RunU.rd 8 (bm 12 511) 25 (.load 86 (.tmp 24)) (.int .u64 (us.getD ((i).toNat) 0)) [0, 1] (Reads.load_blk hU 1 b2 (0 + (i).toNat * 1) 89 (nums .u64 us) (.int .u64 (us.getD ((i).toNat) 0)) (by kernel_rfl) (by kernel_rfl) (loadv_one (by kernel_rfl) (Seg.elem (i := (i).toNat) (show Seg _ 0 _ from Seg.all _) (by omega) (by omega)))) ?_
    refine RunU.sl hU 9 (bm 12 1023) 26 (.int .u64 (bits2 .xor .u64 (os.getD ((i).toNat) 0) (us.getD ((i).toNat) 0))) ?_
    refine RunU.sl hU 10 (bm 12 2047) 27 (.int .u64 (bits2 .and .u64 (IntKind.wrap .u64 (0 - (bits2 .and .u64 b 1))) (bits2 .xor .u64 (os.getD ((i).toNat) 0) (us.getD ((i).toNat) 0)))) ?_
    refine RunU.sl hU 11 (bm 12 4095) 10 (.int .u64 (bits2 .and .u64 (IntKind.wrap .u64 (0 - (bits2 .and .u64 b 1))) (bits2 .xor .u64 (os.getD ((i).toNat) 0) (us.getD ((i).toNat) 0)))) ?_
    refine RunU.ev [4, 5, 6, 7, 8, 9, 10, 14] [(4, pt b1), (5, pt b2), (6, pt b3), (7, pt b5), (8, .int .u64 (IntKind.wrap .u64 (0 - (bits2 .and .u64 b 1)))), (9, .int .i64 i), (10, .int .u64 (bits2 .and .u64 (IntKind.wrap .u64 (0 - (bits2 .and .u64 b 1))) (bits2 .xor .u64 (os.getD ((i).toNat) 0) (us.getD ((i).toNat) 0)))), (14, .int .i64 i)] ?_
    refine RunU.dn ?_
    refine kseq_n ?_
    refine RunC.sr ?_
    refine RunR.sil hU [] 3 3 [4, 5, 6, 7, 8, 9, 10, 14, 28, 30] [(4, pt b1), (5, pt b2), (6, pt b3), (7, pt b5), (8, .int .u64 (IntKind.wrap .u64 (0 - (bits2 .and .u64 b 1)))), (9, .int .i64 i), (10, .int .u64 (bits2 .and .u64 (IntKind.wrap .u64 (0 - (bits2 .and .u64 b 1))) (bits2 .xor .u64 (os.getD ((i).toNat) 0) (us.getD ((i).toNat) 0)))), (14, .int .i64 i), (28, .int .i64 i), (30, .pointer (some ⟨b1, 0 + (i).toNat * 1, none⟩))] ((True) ∧ (True) ∧ (0 ≤ i ∧ i < ((5 : Nat) : Int)) ∧ True) rfl (by kernel_rfl) ⟨trivial, trivial, (by omega), trivial⟩ ?_
    refine RunR.st (some 31) (.load 86 (.tmp 30)) (Step.load_blk hU 0 b1 (0 + (i).toNat * 1) 89 (nums .u64 os) (.int .u64 (os.getD ((i).toNat) 0)) (by kernel_rfl) (by kernel_rfl) (loadv_one (by kernel_rfl) (Seg.elem (i := (i).toNat) (show Seg _ 0 _ from Seg.all _) (by omega) (by omega))) (by kernel_rfl) ?_)
    refine RunR.sil hU [] 4 8 [4, 5, 6, 7, 8, 9, 10, 14, 33, 35] [(4, pt b1), (5, pt b2), (6, pt b3), (7, pt b5), (8, .int .u64 (IntKind.wrap .u64 (0 - (bits2 .and .u64 b 1)))), (9, .int .i64 i), (10, .int .u64 (bits2 .and .u64 (IntKind.wrap .u64 (0 - (bits2 .and .u64 b 1))) (bits2 .xor .u64 (os.getD ((i).toNat) 0) (us.getD ((i).toNat) 0)))), (14, .int .i64 i), (33, .int .u64 (bits2 .xor .u64 (os.getD ((i).toNat) 0) (bits2 .and .u64 (IntKind.wrap .u64 (0 - (bits2 .and .u64 b 1))) (bits2 .xor .u64 (os.getD ((i).toNat) 0) (us.getD ((i).toNat) 0))))), (35, .pointer (some ⟨b1, 0 + (i).toNat * 1, none⟩))] ((True) ∧ (True) ∧ (True) ∧ (0 ≤ i ∧ i < ((5 : Nat) : Int)) ∧ True) rfl (by kernel_rfl) ⟨trivial, trivial, trivial, (by omega), trivial⟩ ?_
    have hl9 : (os.set ((i).toNat) (bits2 .xor .u64 (os.getD ((i).toNat) 0) (bits2 .and .u64 (IntKind.wrap .u64 (0 - (bits2 .and .u64 b 1))) (bits2 .xor .u64 (os.getD ((i).toNat) 0) (us.getD ((i).toNat) 0))))).length = os.length := List.length_set
    refine RunR.st none (.store 86 (.tmp 35) (.tmp 33)) (Step.store_seg hU 0 b1 (0 + (i).toNat * 1) 89 (nums .u64 os) (nums .u64 (os.set ((i).toNat) (bits2 .xor .u64 (os.getD ((i).toNat) 0) (bits2 .and .u64 (IntKind.wrap .u64 (0 - (bits2 .and .u64 b 1))) (bits2 .xor .u64 (os.getD ((i).toNat) 0) (us.getD ((i).toNat) 0)))))) ([.int .u64 (bits2 .xor .u64 (os.getD ((i).toNat) 0) (bits2 .and .u64 (IntKind.wrap .u64 (0 - (bits2 .and .u64 b 1))) (bits2 .xor .u64 (os.getD ((i).toNat) 0) (us.getD ((i).toNat) 0))))]) (.int .u64 (bits2 .xor .u64 (os.getD ((i).toNat) 0) (bits2 .and .u64 (IntKind.wrap .u64 (0 - (bits2 .and .u64 b 1))) (bits2 .xor .u64 (os.getD ((i).toNat) 0) (us.getD ((i).toNat) 0))))) (by kernel_rfl) (by kernel_rfl) (by kernel_rfl) 1 (by kernel_rfl) (by kernel_rfl) (by rfl) (by kernel_rfl) ((Put.nth (i := (i).toNat) (by omega) rfl).at (by omega)) ?_)
    refine RunR.nn ?_
    refine RunC.region ?_
    refine RunR.sil hU [] 3 3 [4, 5, 6, 7, 8, 10, 14, 36, 38] [(4, pt b1), (5, pt b2), (6, pt b3), (7, pt b5), (8, .int .u64 (IntKind.wrap .u64 (0 - (bits2 .and .u64 b 1)))), (10, .int .u64 (bits2 .and .u64 (IntKind.wrap .u64 (0 - (bits2 .and .u64 b 1))) (bits2 .xor .u64 (os.getD ((i).toNat) 0) (us.getD ((i).toNat) 0)))), (14, .int .i64 i), (36, .int .i64 i), (38, .pointer (some ⟨b2, 0 + (i).toNat * 1, none⟩))] ((True) ∧ (True) ∧ (0 ≤ i ∧ i < ((5 : Nat) : Int)) ∧ True) rfl (by kernel_rfl) ⟨trivial, trivial, (by omega), trivial⟩ ?_
    refine RunR.st (some 39) (.load 86 (.tmp 38)) (Step.load_blk hU 1 b2 (0 + (i).toNat * 1) 89 (nums .u64 us) (.int .u64 (us.getD ((i).toNat) 0)) (by kernel_rfl) (by kernel_rfl) (loadv_one (by kernel_rfl) (Seg.elem (i := (i).toNat) (show Seg _ 0 _ from Seg.all _) (by omega) (by omega))) (by kernel_rfl) ?_)
    refine RunR.sil hU [] 4 8 [4, 5, 6, 7, 8, 14, 41, 43] [(4, pt b1), (5, pt b2), (6, pt b3), (7, pt b5), (8, .int .u64 (IntKind.wrap .u64 (0 - (bits2 .and .u64 b 1)))), (14, .int .i64 i), (41, .int .u64 (bits2 .xor .u64 (us.getD ((i).toNat) 0) (bits2 .and .u64 (IntKind.wrap .u64 (0 - (bits2 .and .u64 b 1))) (bits2 .xor .u64 (os.getD ((i).toNat) 0) (us.getD ((i).toNat) 0))))), (43, .pointer (some ⟨b2, 0 + (i).toNat * 1, none⟩))] ((True) ∧ (True) ∧ (True) ∧ (0 ≤ i ∧ i < ((5 : Nat) : Int)) ∧ True) rfl (by kernel_rfl) ⟨trivial, trivial, trivial, (by omega), trivial⟩ ?_
    have hl10 : (us.set ((i).toNat) (bits2 .xor .u64 (us.getD ((i).toNat) 0) (bits2 .and .u64 (IntKind.wrap .u64 (0 - (bits2 .and .u64 b 1))) (bits2 .xor .u64 (os.getD ((i).toNat) 0) (us.getD ((i).toNat) 0))))).length = us.length := List.length_set
    refine RunR.st none (.store 86 (.tmp 43) (.tmp 41)) (Step.store_seg hU 1 b2 (0 + (i).toNat * 1) 89 (nums .u64 us) (nums .u64 (us.set ((i).toNat) (bits2 .xor .u64 (us.getD ((i).toNat) 0) (bits2 .and .u64 (IntKind.wrap .u64 (0 - (bits2 .and .u64 b 1))) (bits2 .xor .u64 (os.getD ((i).toNat) 0) (us.getD ((i).toNat) 0)))))) ([.int .u64 (bits2 .xor .u64 (us.getD ((i).toNat) 0) (bits2 .and .u64 (IntKind.wrap .u64 (0 - (bits2 .and .u64 b 1))) (bits2 .xor .u64 (os.getD ((i).toNat) 0) (us.getD ((i).toNat) 0))))]) (.int .u64 (bits2 .xor .u64 (us.getD ((i).toNat) 0) (bits2 .and .u64 (IntKind.wrap .u64 (0 - (bits2 .and .u64 b 1))) (bits2 .xor .u64 (os.getD ((i).toNat) 0) (us.getD ((i).toNat) 0))))) (by kernel_rfl) (by kernel_rfl) (by kernel_rfl) 1 (by kernel_rfl) (by kernel_rfl) (by rfl) (by kernel_rfl) ((Put.nth (i := (i).toNat) (by omega) rfl).at (by omega)) ?_)
    refine RunR.dn ?_
    refine kblock_n ?_
    refine kseq_n ?_
    refine RunC.region ?_
    refine RunR.sil hU [0] 2 2 [4, 5, 6, 7, 8, 14] [(4, pt b1), (5, pt b2), (6, pt b3), (7, pt b5), (8, .int .u64 (IntKind.wrap .u64 (0 - (bits2 .and .u64 b 1)))), (14, .int .i64 (i + 1))] ((-9223372036854775808 ≤ (i + 1) ∧ (i + 1) < 9223372036854775808) ∧ (True) ∧ True) rfl (by kernel_rfl) ⟨(by omega), trivial, trivial⟩ ?_
    refine RunR.dn ?_
    refine kloop_n _ [4, 5, 6, 7, 8, 14] [1, 0, 0, 0] [(4, pt b1), (5, pt b2), (6, pt b3), (7, pt b5), (8, .int .u64 (IntKind.wrap .u64 (0 - (bits2 .and .u64 b 1)))), (14, .int .i64 (i + 1))] [blk b1 89 (nums .u64 (os.set ((i).toNat) (bits2 .xor .u64 (os.getD ((i).toNat) 0) (bits2 .and .u64 (IntKind.wrap .u64 (0 - (bits2 .and .u64 b 1))) (bits2 .xor .u64 (os.getD ((i).toNat) 0) (us.getD ((i).toNat) 0)))))), blk b2 89 (nums .u64 (us.set ((i).toNat) (bits2 .xor .u64 (us.getD ((i).toNat) 0) (bits2 .and .u64 (IntKind.wrap .u64 (0 - (bits2 .and .u64 b 1))) (bits2 .xor .u64 (os.getD ((i).toNat) 0) (us.getD ((i).toNat) 0)))))), blk b5 89 (nums .u64 (List.replicate 5 (0 : Int))), blk b3 89 (nums .u64 (List.replicate 5 (0 : Int)))] (by kernel_rfl) (by kernel_rfl) ?_ ⟨(i + 1), (os.set ((i).toNat) (bits2 .xor .u64 (os.getD ((i).toNat) 0) (bits2 .and .u64 (IntKind.wrap .u64 (0 - (bits2 .and .u64 b 1))) (bits2 .xor .u64 (os.getD ((i).toNat) 0) (us.getD ((i).toNat) 0))))), (us.set ((i).toNat) (bits2 .xor .u64 (us.getD ((i).toNat) 0) (bits2 .and .u64 (IntKind.wrap .u64 (0 - (bits2 .and .u64 b 1))) (bits2 .xor .u64 (os.getD ((i).toNat) 0) (us.getD ((i).toNat) 0))))), (by omega), (by assumption), (by rw [show (i + 1).toNat = i.toNat + 1 by omega]; exact (sw_step hb hx hy hl hm (by omega) ho hu).1), (by rw [show (i + 1).toNat = i.toNat + 1 by omega]; exact (sw_step hb hx hy hl hm (by omega) ho hu).2), (by simp only [List.length_set]; exact hol), (by simp only [List.length_set]; exact hul), rfl, (by rfl), (by rfl)⟩
    show ((5 - (i + 1)).toNat : Nat) < ((5 - i).toNat : Nat)
    omega
  · skip
    refine RunC.exit ?_
    refine kseq_e ?_
    refine kloop_e ?_
    refine kblock_e ?_
    refine kseq_n ?_
    refine RunC.seq ?_
    refine RunC.regionU hU 4 [blk b1 89 (nums .u64 os), blk b2 89 (nums .u64 us)] [0, 1] [3] (bm 4 0) (by kernel_rfl) (by kernel_rfl) (by kernel_rfl) ?_
    refine RunU.rd 0 (bm 4 1) 45 (.load 89 (.tmp 4)) (ag .u64 os) [0, 1] (Reads.load_blk hU 0 b1 (0) 89 (nums .u64 os) (ag .u64 os) (by kernel_rfl) (by kernel_rfl) (loadv_seg (n := 5) (by kernel_rfl) (by kernel_rfl) (Seg.all _) (by simp only [List.length_append, nums_length, List.length_cons, List.length_nil] <;> omega))) ?_
    refine RunU.rd 1 (bm 4 3) 46 (.load 89 (.tmp 5)) (ag .u64 us) [0, 1] (Reads.load_blk hU 1 b2 (0) 89 (nums .u64 us) (ag .u64 us) (by kernel_rfl) (by kernel_rfl) (loadv_seg (n := 5) (by kernel_rfl) (by kernel_rfl) (Seg.all _) (by simp only [List.length_append, nums_length, List.length_cons, List.length_nil] <;> omega))) ?_
    refine RunU.on none (.store 89 (.tmp 6) (.tmp 45)) 2 (bm 4 7) [1, 2] (Step.ss hU 3 b3 (0) 89 (nums .u64 (List.replicate 5 (0 : Int))) (nums .u64 os) (nums .u64 os) (ag .u64 os) 5 (by (simp only [List.length_append, nums_length, List.length_cons, List.length_nil, List.length_replicate]; omega)) (show Put _ 0 _ _ from Put.all (by simp only [List.length_append, nums_length, List.length_cons, List.length_nil, List.length_replicate] <;> omega)) ?_)
    refine orL ?_
    refine RunU.on none (.store 89 (.tmp 7) (.tmp 46)) 3 (bm 4 15) [] (Step.ss hU 3 b5 (0) 89 (nums .u64 (List.replicate 5 (0 : Int))) (nums .u64 us) (nums .u64 us) (ag .u64 us) 5 (by (simp only [List.length_append, nums_length, List.length_cons, List.length_nil, List.length_replicate]; omega)) (show Put _ 0 _ _ from Put.all (by simp only [List.length_append, nums_length, List.length_cons, List.length_nil, List.length_replicate] <;> omega)) ?_)
    refine orR ?_
    refine RunU.ev [6, 7] [(6, pt b3), (7, pt b5)] ?_
    refine RunU.dn ?_
    refine kseq_n ?_
    refine RunC.ret ?_
    refine kret_r [ag .u64 os, ag .u64 us] [] [] ⟨⟨1, b3, 0, 89, nums .u64 os, rfl, rfl, (loadv_seg (U := U) (n := 5) (by kernel_rfl) (by kernel_rfl) (Seg.all _) (by simp only [List.length_append, nums_length, List.length_cons, List.length_nil] <;> omega))⟩, ⟨0, b5, 0, 89, nums .u64 us, rfl, rfl, (loadv_seg (U := U) (n := 5) (by kernel_rfl) (by kernel_rfl) (Seg.all _) (by simp only [List.length_append, nums_length, List.length_cons, List.length_nil] <;> omega))⟩, trivial⟩ (by kernel_rfl) rfl ⟨os, us, rfl, rfl, (by rw [sw_end hl hm (os := os) (by rw [ho, show i = 5 by omega] <;> rfl)]; exact sw_el hE hF), (by rw [sw_end hm hl (os := us) (by rw [hu, show i = 5 by omega] <;> rfl)]; exact sw_el hF hE), (by exact hol), (by exact hul)⟩
end Go.Proofs.Ytaaplakahkgclaa.X9
