/- What these functions compute: a contract for each, walked through its code. -/
import Derived.Test.YtaaplakahkgclaaSLzh
import Derived.Test.YtaaplakahkgclaaKPure
import Derived.Test.YtaaplakahkgclaaProg
import Derived.Test.YtaaplakahkgclaaX1
namespace Go.Proofs.Ytaaplakahkgclaa.X2
open Go Go.Proofs.Ytaaplakahkgclaa.SL Go.Proofs.Ytaaplakahkgclaa.SL.W Go.Proofs.Ytaaplakahkgclaa.SL.F Go.Proofs.Ytaaplakahkgclaa.SL.N Go.Proofs.Ytaaplakahkgclaa.SL.E Go.Proofs.Ytaaplakahkgclaa.SL.K Go.Proofs.Ytaaplakahkgclaa.X1
set_option linter.unusedVariables false
set_option linter.unusedSimpArgs false
set_option maxRecDepth 100000
set_option maxHeartbeats 40000000
def U : Tab where
  und := [(3, .int .i64), (86, .int .u64), (87, .array 5 86), (88, .struct #[{ name := "n", type := 87, offset := 0, embedded := false, tag := "", pkgPath := "orlop/field", byteOffset := 0 }]), (89, .struct #[{ name := "n", type := 87, offset := 0, embedded := false, tag := "", pkgPath := "orlop/field", byteOffset := 0 }])]
  fld := [((88, 0), (0, 87)), ((89, 0), (0, 87))]
  sz := [(3, 1), (86, 1), (87, 5), (88, 5), (89, 5)]
  ti := [(3, (1, 8, .int .i64 0)), (86, (1, 8, .int .u64 0)), (87, (5, 40, z5)), (88, (5, 40, z5)), (89, (5, 40, z5))]
  bld := [(88, [(0, 5)]), (89, [(0, 5)])]

theorem hU : U.OK Try.prog where
  und := by
    intro p hp
    simp only [U, List.mem_cons, List.not_mem_nil, or_false] at hp
    rcases hp with rfl | rfl | rfl | rfl | rfl
    · exact Try.underlying3
    · exact Try.underlying86
    · exact Try.underlying87
    · exact Try.underlying88
    · exact Try.underlying89
  fld := by
    intro p hp
    simp only [U, List.mem_cons, List.not_mem_nil, or_false] at hp
    rcases hp with rfl | rfl
    · exact ⟨_, _, Try.underlying88, rfl, rfl, rfl, Try.prog.types[87]!, by kernel_rfl, by decide +kernel⟩
    · exact ⟨_, _, Try.underlying89, rfl, rfl, rfl, Try.prog.types[87]!, by kernel_rfl, by decide +kernel⟩
  sz := by
    intro p hp
    simp only [U, List.mem_cons, List.not_mem_nil, or_false] at hp
    rcases hp with rfl | rfl | rfl | rfl | rfl
    · exact ⟨Try.prog.types[3]!, by kernel_rfl, by kernel_rfl⟩
    · exact ⟨Try.prog.types[86]!, by kernel_rfl, by kernel_rfl⟩
    · exact ⟨Try.prog.types[87]!, by kernel_rfl, by kernel_rfl⟩
    · exact ⟨Try.prog.types[88]!, by kernel_rfl, by kernel_rfl⟩
    · exact ⟨Try.prog.types[89]!, by kernel_rfl, by kernel_rfl⟩
  ti := by
    intro p hp
    simp only [U, List.mem_cons, List.not_mem_nil, or_false] at hp
    rcases hp with rfl | rfl | rfl | rfl | rfl
    · exact ⟨Try.prog.types[3]!, by kernel_rfl, by kernel_rfl, by kernel_rfl, by kernel_rfl⟩
    · exact ⟨Try.prog.types[86]!, by kernel_rfl, by kernel_rfl, by kernel_rfl, by kernel_rfl⟩
    · exact ⟨Try.prog.types[87]!, by kernel_rfl, by kernel_rfl, by kernel_rfl, by kernel_rfl⟩
    · exact ⟨Try.prog.types[88]!, by kernel_rfl, by kernel_rfl, by kernel_rfl, by kernel_rfl⟩
    · exact ⟨Try.prog.types[89]!, by kernel_rfl, by kernel_rfl, by kernel_rfl, by kernel_rfl⟩
  bld := by
    intro p hp
    simp only [U, List.mem_cons, List.not_mem_nil, or_false] at hp
    rcases hp with rfl | rfl
    · exact ⟨_, Try.underlying88, by kernel_rfl⟩
    · exact ⟨_, Try.underlying89, by kernel_rfl⟩
  mixed := by kernel_rfl

theorem f_carried_spec (xs : List Int) (hL : Lim 9223372036854775808 xs) (hl : xs.length = 5) :
    CallsS Try.prog 96 [ag .u64 xs] [] (fun r D => ∃ (zs : List Int), r = ag .u64 zs ∧ D = [] ∧ (zs = carr xs) ∧ (zs.length = 5)) := by
  refine CallsS.enter hU Try.f96 _ [.cell 2 89] 38 Try.func96 rfl (by decide) rfl rfl (by kernel_rfl) fun w0 W => ?_
  refine RunC.sr ?_
  refine RunR.st (some 1) (.box 89 (.tmp 0)) (Step.box (ag .u64 xs) (by kernel_rfl) (by kernel_rfl) (fun b1 => ?_))
  refine RunR.st (some 2) (.alloc 89) (Step.al hU 5 40 z5 (fun b2 => ?_))
  have hl3 : (List.replicate 5 (0 : Int)).length = 5 := List.length_replicate
  refine RunR.nx ?_
  refine RunR.sl hU [] 1 1 [1, 2, 3] [(1, pt b1), (2, pt b2), (3, .int .u64 0)] 1 ?_
  refine RunR.nn ?_
  refine RunC.seq ?_
  refine RunC.sr ?_
  refine RunR.sl hU [] 1 1 [1, 2, 3, 5] [(1, pt b1), (2, pt b2), (3, .int .u64 0), (5, .int .i64 0)] 1 ?_
  refine RunR.nn ?_
  refine RunC.block ?_
  refine RunC.env [1, 2, 3, 5] [(1, pt b1), (2, pt b2), (3, .int .u64 0), (5, .int .i64 0)] (by kernel_rfl) ?_
  refine RunC.only [1, 0] [blk b1 89 (nums .u64 xs), blk b2 89 (nums .u64 (List.replicate 5 (0 : Int)))] (by kernel_rfl) ?_
  refine RunC.loop (σ := Nat) (fun n_ t_ D_ => ∃ (i : Int) (os : List Int) (c : Int), (0 ≤ i) ∧ (i ≤ 5) ∧ (os = carL xs i.toNat) ∧ (c = carC xs i.toNat) ∧ (os.length = 5) ∧ n_ = ((5 - i).toNat : Nat) ∧ t_ = [(1, pt b1), (2, pt b2), (3, .int .u64 c), (5, .int .i64 i)] ∧ D_ = [blk b1 89 (nums .u64 os), blk b2 89 (nums .u64 (List.replicate 5 (0 : Int)))]) id _ ⟨0, xs, 0, (by omega), (by omega), (by rfl), (by rfl), (by assumption), rfl, rfl, rfl⟩ ?_
  rintro n_ _ _ ⟨i, os, c, hi, hi2, ho, hc, hol, rfl, rfl, rfl⟩
  refine RunC.sr ?_
  refine RunR.sl hU [] 1 1 [1, 2, 3, 5, 6] [(1, pt b1), (2, pt b2), (3, .int .u64 c), (5, .int .i64 i), (6, .bool (decide (i < 5)))] 1 ?_
  refine RunR.nn ?_
  refine RunC.seq ?_
  refine RunC.condp (i < 5) (by kernel_rfl) (fun h4 => ?_) (fun h4 => ?_)
  · skip
    refine RunC.ks ?_
    refine RunC.seq ?_
    refine RunC.block ?_
    refine RunC.sr ?_
    refine RunR.sl hU [] 2 2 [1, 2, 3, 4, 5] [(1, pt b1), (2, pt b2), (3, .int .u64 c), (4, .int .i64 i), (5, .int .i64 i)] 2 ?_
    refine RunR.nx ?_
    refine RunR.sil hU [] 3 3 [1, 2, 3, 4, 5, 8, 10] [(1, pt b1), (2, pt b2), (3, .int .u64 c), (4, .int .i64 i), (5, .int .i64 i), (8, .int .i64 i), (10, .pointer (some ⟨b1, 0 + (i).toNat * 1, none⟩))] ((True) ∧ (True) ∧ (0 ≤ i ∧ i < ((5 : Nat) : Int)) ∧ True) rfl (by kernel_rfl) ⟨trivial, trivial, (by omega), trivial⟩ ?_
    refine RunR.st (some 11) (.load 86 (.tmp 10)) (Step.load_blk hU 0 b1 (0 + (i).toNat * 1) 89 (nums .u64 os) (.int .u64 (os.getD ((i).toNat) 0)) (by kernel_rfl) (by kernel_rfl) (loadv_one (by kernel_rfl) (Seg.elem (i := (i).toNat) (show Seg _ 0 _ from Seg.all _) (by omega) (by omega))) (by kernel_rfl) ?_)
    refine RunR.sil hU [] 4 8 [1, 2, 3, 4, 5, 13, 15] [(1, pt b1), (2, pt b2), (3, .int .u64 c), (4, .int .i64 i), (5, .int .i64 i), (13, .int .u64 (IntKind.wrap .u64 ((os.getD ((i).toNat) 0) + c))), (15, .pointer (some ⟨b1, 0 + (i).toNat * 1, none⟩))] ((True) ∧ (True) ∧ (True) ∧ (0 ≤ i ∧ i < ((5 : Nat) : Int)) ∧ True) rfl (by kernel_rfl) ⟨trivial, trivial, trivial, (by omega), trivial⟩ ?_
    have hl5 : (os.set ((i).toNat) (IntKind.wrap .u64 ((os.getD ((i).toNat) 0) + c))).length = os.length := List.length_set
    refine RunR.st none (.store 86 (.tmp 15) (.tmp 13)) (Step.store_seg hU 0 b1 (0 + (i).toNat * 1) 89 (nums .u64 os) (nums .u64 (os.set ((i).toNat) (IntKind.wrap .u64 ((os.getD ((i).toNat) 0) + c)))) ([.int .u64 (IntKind.wrap .u64 ((os.getD ((i).toNat) 0) + c))]) (.int .u64 (IntKind.wrap .u64 ((os.getD ((i).toNat) 0) + c))) (by kernel_rfl) (by kernel_rfl) (by kernel_rfl) 1 (by kernel_rfl) (by kernel_rfl) (by rfl) (by kernel_rfl) ((Put.nth (i := (i).toNat) (by omega) rfl).at (by omega)) ?_)
    refine RunR.nx ?_
    refine RunR.sil hU [] 3 3 [1, 2, 3, 4, 5, 18] [(1, pt b1), (2, pt b2), (3, .int .u64 c), (4, .int .i64 i), (5, .int .i64 i), (18, .pointer (some ⟨b1, 0 + (i).toNat * 1, none⟩))] ((True) ∧ (True) ∧ (0 ≤ i ∧ i < ((5 : Nat) : Int)) ∧ True) rfl (by kernel_rfl) ⟨trivial, trivial, (by omega), trivial⟩ ?_
    refine RunR.st (some 19) (.load 86 (.tmp 18)) (Step.load_blk hU 0 b1 (0 + (i).toNat * 1) 89 (nums .u64 (os.set ((i).toNat) (IntKind.wrap .u64 ((os.getD ((i).toNat) 0) + c)))) (.int .u64 ((os.set ((i).toNat) (IntKind.wrap .u64 ((os.getD ((i).toNat) 0) + c))).getD ((i).toNat) 0)) (by kernel_rfl) (by kernel_rfl) (loadv_one (by kernel_rfl) (Seg.elem (i := (i).toNat) (show Seg _ 0 _ from Seg.all _) (by omega) (by omega))) (by kernel_rfl) ?_)
    refine RunR.sil hU [4] 2 6 [1, 2, 3, 4, 5] [(1, pt b1), (2, pt b2), (3, .int .u64 (((os.set ((i).toNat) (IntKind.wrap .u64 ((os.getD ((i).toNat) 0) + c))).getD ((i).toNat) 0) / 2 ^ 51)), (4, .int .i64 i), (5, .int .i64 i)] ((0 ≤ (51 : Int)) ∧ (True) ∧ True) rfl (by kernel_rfl) ⟨(by omega), trivial, trivial⟩ ?_
    refine RunR.nn ?_
    refine RunC.region ?_
    refine RunR.sil hU [] 3 3 [1, 2, 3, 5, 21, 23] [(1, pt b1), (2, pt b2), (3, .int .u64 (((os.set ((i).toNat) (IntKind.wrap .u64 ((os.getD ((i).toNat) 0) + c))).getD ((i).toNat) 0) / 2 ^ 51)), (5, .int .i64 i), (21, .int .i64 i), (23, .pointer (some ⟨b1, 0 + (i).toNat * 1, none⟩))] ((True) ∧ (True) ∧ (0 ≤ i ∧ i < ((5 : Nat) : Int)) ∧ True) rfl (by kernel_rfl) ⟨trivial, trivial, (by omega), trivial⟩ ?_
    refine RunR.st (some 24) (.load 86 (.tmp 23)) (Step.load_blk hU 0 b1 (0 + (i).toNat * 1) 89 (nums .u64 (os.set ((i).toNat) (IntKind.wrap .u64 ((os.getD ((i).toNat) 0) + c)))) (.int .u64 ((os.set ((i).toNat) (IntKind.wrap .u64 ((os.getD ((i).toNat) 0) + c))).getD ((i).toNat) 0)) (by kernel_rfl) (by kernel_rfl) (loadv_one (by kernel_rfl) (Seg.elem (i := (i).toNat) (show Seg _ 0 _ from Seg.all _) (by omega) (by omega))) (by kernel_rfl) ?_)
    have hm6 := and_le .u64 rfl ((os.set ((i).toNat) (IntKind.wrap .u64 ((os.getD ((i).toNat) 0) + c))).getD ((i).toNat) 0) 2251799813685247 (by decide) (by decide)
    refine RunR.sil hU [] 3 7 [1, 2, 3, 5, 25, 27] [(1, pt b1), (2, pt b2), (3, .int .u64 (((os.set ((i).toNat) (IntKind.wrap .u64 ((os.getD ((i).toNat) 0) + c))).getD ((i).toNat) 0) / 2 ^ 51)), (5, .int .i64 i), (25, .int .u64 (bits2 .and .u64 ((os.set ((i).toNat) (IntKind.wrap .u64 ((os.getD ((i).toNat) 0) + c))).getD ((i).toNat) 0) 2251799813685247)), (27, .pointer (some ⟨b1, 0 + (i).toNat * 1, none⟩))] ((True) ∧ (True) ∧ (0 ≤ i ∧ i < ((5 : Nat) : Int)) ∧ True) rfl (by kernel_rfl) ⟨trivial, trivial, (by omega), trivial⟩ ?_
    have hl7 : ((os.set ((i).toNat) (IntKind.wrap .u64 ((os.getD ((i).toNat) 0) + c))).set ((i).toNat) (bits2 .and .u64 ((os.set ((i).toNat) (IntKind.wrap .u64 ((os.getD ((i).toNat) 0) + c))).getD ((i).toNat) 0) 2251799813685247)).length = (os.set ((i).toNat) (IntKind.wrap .u64 ((os.getD ((i).toNat) 0) + c))).length := List.length_set
    refine RunR.st none (.store 86 (.tmp 27) (.tmp 25)) (Step.store_seg hU 0 b1 (0 + (i).toNat * 1) 89 (nums .u64 (os.set ((i).toNat) (IntKind.wrap .u64 ((os.getD ((i).toNat) 0) + c)))) (nums .u64 ((os.set ((i).toNat) (IntKind.wrap .u64 ((os.getD ((i).toNat) 0) + c))).set ((i).toNat) (bits2 .and .u64 ((os.set ((i).toNat) (IntKind.wrap .u64 ((os.getD ((i).toNat) 0) + c))).getD ((i).toNat) 0) 2251799813685247))) ([.int .u64 (bits2 .and .u64 ((os.set ((i).toNat) (IntKind.wrap .u64 ((os.getD ((i).toNat) 0) + c))).getD ((i).toNat) 0) 2251799813685247)]) (.int .u64 (bits2 .and .u64 ((os.set ((i).toNat) (IntKind.wrap .u64 ((os.getD ((i).toNat) 0) + c))).getD ((i).toNat) 0) 2251799813685247)) (by kernel_rfl) (by kernel_rfl) (by kernel_rfl) 1 (by kernel_rfl) (by kernel_rfl) (by rfl) (by kernel_rfl) ((Put.nth (i := (i).toNat) (by omega) rfl).at (by omega)) ?_)
    refine RunR.dn ?_
    refine kblock_n ?_
    refine kseq_n ?_
    refine RunC.region ?_
    refine RunR.sil hU [0] 2 2 [1, 2, 3, 5] [(1, pt b1), (2, pt b2), (3, .int .u64 (((os.set ((i).toNat) (IntKind.wrap .u64 ((os.getD ((i).toNat) 0) + c))).getD ((i).toNat) 0) / 2 ^ 51)), (5, .int .i64 (i + 1))] ((-9223372036854775808 ≤ (i + 1) ∧ (i + 1) < 9223372036854775808) ∧ (True) ∧ True) rfl (by kernel_rfl) ⟨(by omega), trivial, trivial⟩ ?_
    refine RunR.dn ?_
    refine kloop_n _ [1, 2, 3, 5] [0, 0] [(1, pt b1), (2, pt b2), (3, .int .u64 (((os.set ((i).toNat) (IntKind.wrap .u64 ((os.getD ((i).toNat) 0) + c))).getD ((i).toNat) 0) / 2 ^ 51)), (5, .int .i64 (i + 1))] [blk b1 89 (nums .u64 ((os.set ((i).toNat) (IntKind.wrap .u64 ((os.getD ((i).toNat) 0) + c))).set ((i).toNat) (bits2 .and .u64 ((os.set ((i).toNat) (IntKind.wrap .u64 ((os.getD ((i).toNat) 0) + c))).getD ((i).toNat) 0) 2251799813685247))), blk b2 89 (nums .u64 (List.replicate 5 (0 : Int)))] (by kernel_rfl) (by kernel_rfl) ?_ ⟨(i + 1), ((os.set ((i).toNat) (IntKind.wrap .u64 ((os.getD ((i).toNat) 0) + c))).set ((i).toNat) (bits2 .and .u64 ((os.set ((i).toNat) (IntKind.wrap .u64 ((os.getD ((i).toNat) 0) + c))).getD ((i).toNat) 0) 2251799813685247)), (((os.set ((i).toNat) (IntKind.wrap .u64 ((os.getD ((i).toNat) 0) + c))).getD ((i).toNat) 0) / 2 ^ 51), (by omega), (by assumption), (by rw [show (i + 1).toNat = i.toNat + 1 by omega]; exact (car_step hL (Int.le_refl _) (by omega) ho hc).1), (by rw [show (i + 1).toNat = i.toNat + 1 by omega]; exact (car_step hL (Int.le_refl _) (by omega) ho hc).2), (by simp only [List.length_set]; exact hol), rfl, (by rfl), (by rfl)⟩
    show ((5 - (i + 1)).toNat : Nat) < ((5 - i).toNat : Nat)
    omega
  · skip
    refine RunC.exit ?_
    refine kseq_e ?_
    refine kloop_e ?_
    refine kblock_e ?_
    refine kseq_n ?_
    refine RunC.sr ?_
    refine RunR.sil hU [] 2 2 [1, 2, 3, 30] [(1, pt b1), (2, pt b2), (3, .int .u64 c), (30, pt b1)] ((True) ∧ (0 ≤ (0 : Int) ∧ (0 : Int) < ((5 : Nat) : Int)) ∧ True) rfl (by kernel_rfl) ⟨trivial, (by omega), trivial⟩ ?_
    refine RunR.st (some 31) (.load 86 (.tmp 30)) (Step.load_blk hU 0 b1 (0) 89 (nums .u64 os) (.int .u64 (os.getD 0 0)) (by kernel_rfl) (by kernel_rfl) (loadv_one (by kernel_rfl) (Seg.elem (i := 0) (show Seg _ 0 _ from Seg.all _) (by omega) (by omega))) (by kernel_rfl) ?_)
    refine RunR.sil hU [] 5 8 [1, 2, 34, 36] [(1, pt b1), (2, pt b2), (34, .int .u64 (IntKind.wrap .u64 ((os.getD 0 0) + (IntKind.wrap .u64 (19 * c))))), (36, pt b1)] ((True) ∧ (True) ∧ (True) ∧ (True) ∧ (0 ≤ (0 : Int) ∧ (0 : Int) < ((5 : Nat) : Int)) ∧ True) rfl (by kernel_rfl) ⟨trivial, trivial, trivial, trivial, (by omega), trivial⟩ ?_
    have hl8 : (os.set 0 (IntKind.wrap .u64 ((os.getD 0 0) + (IntKind.wrap .u64 (19 * c))))).length = os.length := List.length_set
    refine RunR.st none (.store 86 (.tmp 36) (.tmp 34)) (Step.store_seg hU 0 b1 (0) 89 (nums .u64 os) (nums .u64 (os.set 0 (IntKind.wrap .u64 ((os.getD 0 0) + (IntKind.wrap .u64 (19 * c)))))) ([.int .u64 (IntKind.wrap .u64 ((os.getD 0 0) + (IntKind.wrap .u64 (19 * c))))]) (.int .u64 (IntKind.wrap .u64 ((os.getD 0 0) + (IntKind.wrap .u64 (19 * c))))) (by kernel_rfl) (by kernel_rfl) (by kernel_rfl) 1 (by kernel_rfl) (by kernel_rfl) (by rfl) (by kernel_rfl) (show Put _ 0 _ _ from Put.nth (i := 0) (by omega) rfl) ?_)
    refine RunR.nx ?_
    refine RunR.st (some 37) (.load 89 (.tmp 1)) (Step.load_blk hU 0 b1 (0) 89 (nums .u64 (os.set 0 (IntKind.wrap .u64 ((os.getD 0 0) + (IntKind.wrap .u64 (19 * c)))))) (.agg (nums .u64 (os.set 0 (IntKind.wrap .u64 ((os.getD 0 0) + (IntKind.wrap .u64 (19 * c)))))).toArray) (by kernel_rfl) (by kernel_rfl) (loadv_seg (n := 5) (by kernel_rfl) (by kernel_rfl) (Seg.all _) (by simp only [List.length_append, nums_length, List.length_cons, List.length_nil] <;> omega)) (by kernel_rfl) ?_)
    refine RunR.st none (.store 89 (.tmp 2) (.tmp 37)) (Step.ss hU 1 b2 (0) 89 (nums .u64 (List.replicate 5 (0 : Int))) (nums .u64 (os.set 0 (IntKind.wrap .u64 ((os.getD 0 0) + (IntKind.wrap .u64 (19 * c)))))) (nums .u64 (os.set 0 (IntKind.wrap .u64 ((os.getD 0 0) + (IntKind.wrap .u64 (19 * c)))))) (.agg (nums .u64 (os.set 0 (IntKind.wrap .u64 ((os.getD 0 0) + (IntKind.wrap .u64 (19 * c)))))).toArray) 5 (by (simp only [List.length_append, nums_length, List.length_cons, List.length_nil, List.length_replicate]; omega)) (show Put _ 0 _ _ from Put.all (by simp only [List.length_append, nums_length, List.length_cons, List.length_nil, List.length_replicate] <;> omega)) ?_)
    refine RunR.nn ?_
    refine RunC.ret ?_
    refine kret_r [.agg (nums .u64 (os.set 0 (IntKind.wrap .u64 ((os.getD 0 0) + (IntKind.wrap .u64 (19 * c)))))).toArray] [] [] ⟨⟨0, b2, 0, 89, nums .u64 (os.set 0 (IntKind.wrap .u64 ((os.getD 0 0) + (IntKind.wrap .u64 (19 * c))))), rfl, rfl, (loadv_seg (U := U) (n := 5) (by kernel_rfl) (by kernel_rfl) (Seg.all _) (by simp only [List.length_append, nums_length, List.length_cons, List.length_nil] <;> omega))⟩, trivial⟩ (by kernel_rfl) rfl ⟨(os.set 0 (IntKind.wrap .u64 ((os.getD 0 0) + (IntKind.wrap .u64 (19 * c))))), rfl, rfl, (by exact car_end hL (Int.le_refl _) (by rw [ho, show i = 5 by omega] <;> rfl) (by rw [hc, show i = 5 by omega] <;> rfl)), (by simp only [List.length_set]; exact hol)⟩
end Go.Proofs.Ytaaplakahkgclaa.X2
