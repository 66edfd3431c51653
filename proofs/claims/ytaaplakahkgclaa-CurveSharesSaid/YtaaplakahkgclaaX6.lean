/- What these functions compute: a contract for each, walked through its code. -/
import Derived.Test.YtaaplakahkgclaaSLzh
import Derived.Test.YtaaplakahkgclaaKPure
import Derived.Test.YtaaplakahkgclaaProg
import Derived.Test.YtaaplakahkgclaaX1
import Derived.Test.YtaaplakahkgclaaX2
import Derived.Test.YtaaplakahkgclaaX3
import Derived.Test.YtaaplakahkgclaaX4
import Derived.Test.YtaaplakahkgclaaX5
namespace Go.Proofs.Ytaaplakahkgclaa.X6
open Go Go.Proofs.Ytaaplakahkgclaa.SL Go.Proofs.Ytaaplakahkgclaa.SL.W Go.Proofs.Ytaaplakahkgclaa.SL.F Go.Proofs.Ytaaplakahkgclaa.SL.N Go.Proofs.Ytaaplakahkgclaa.SL.E Go.Proofs.Ytaaplakahkgclaa.SL.K Go.Proofs.Ytaaplakahkgclaa.X1 Go.Proofs.Ytaaplakahkgclaa.X2 Go.Proofs.Ytaaplakahkgclaa.X3 Go.Proofs.Ytaaplakahkgclaa.X4 Go.Proofs.Ytaaplakahkgclaa.X5
set_option linter.unusedVariables false
set_option linter.unusedSimpArgs false
set_option maxRecDepth 100000
set_option maxHeartbeats 40000000
def U : Tab where
  und := [(3, .int .i64), (86, .int .u64), (87, .array 5 86), (88, .struct #[{ name := "n", type := 87, offset := 0, embedded := false, tag := "", pkgPath := "orlop/field", byteOffset := 0 }]), (89, .struct #[{ name := "n", type := 87, offset := 0, embedded := false, tag := "", pkgPath := "orlop/field", byteOffset := 0 }]), (123, .struct #[{ name := "high", type := 86, offset := 0, embedded := false, tag := "", pkgPath := "orlop/field", byteOffset := 0 }, { name := "low", type := 86, offset := 1, embedded := false, tag := "", pkgPath := "orlop/field", byteOffset := 8 }]), (124, .struct #[{ name := "high", type := 86, offset := 0, embedded := false, tag := "", pkgPath := "orlop/field", byteOffset := 0 }, { name := "low", type := 86, offset := 1, embedded := false, tag := "", pkgPath := "orlop/field", byteOffset := 8 }]), (125, .array 5 124)]
  fld := [((88, 0), (0, 87)), ((89, 0), (0, 87)), ((123, 0), (0, 86)), ((123, 1), (1, 86)), ((124, 0), (0, 86)), ((124, 1), (1, 86))]
  sz := [(3, 1), (86, 1), (87, 5), (88, 5), (89, 5), (123, 2), (124, 2), (125, 10)]
  ti := [(3, (1, 8, .int .i64 0)), (86, (1, 8, .int .u64 0)), (87, (5, 40, z5)), (88, (5, 40, z5)), (89, (5, 40, z5)), (123, (2, 16, .agg #[.int .u64 0, .int .u64 0])), (124, (2, 16, .agg #[.int .u64 0, .int .u64 0])), (125, (10, 80, .agg #[.int .u64 0, .int .u64 0, .int .u64 0, .int .u64 0, .int .u64 0, .int .u64 0, .int .u64 0, .int .u64 0, .int .u64 0, .int .u64 0]))]
  bld := [(88, [(0, 5)]), (89, [(0, 5)]), (123, [(0, 1), (1, 1)]), (124, [(0, 1), (1, 1)])]

theorem hU : U.OK Try.prog where
  und := by
    intro p hp
    simp only [U, List.mem_cons, List.not_mem_nil, or_false] at hp
    rcases hp with rfl | rfl | rfl | rfl | rfl | rfl | rfl | rfl
    · exact Try.underlying3
    · exact Try.underlying86
    · exact Try.underlying87
    · exact Try.underlying88
    · exact Try.underlying89
    · exact Try.underlying123
    · exact Try.underlying124
    · exact Try.underlying125
  fld := by
    intro p hp
    simp only [U, List.mem_cons, List.not_mem_nil, or_false] at hp
    rcases hp with rfl | rfl | rfl | rfl | rfl | rfl
    · exact ⟨_, _, Try.underlying88, rfl, rfl, rfl, Try.prog.types[87]!, by kernel_rfl, by decide +kernel⟩
    · exact ⟨_, _, Try.underlying89, rfl, rfl, rfl, Try.prog.types[87]!, by kernel_rfl, by decide +kernel⟩
    · exact ⟨_, _, Try.underlying123, rfl, rfl, rfl, Try.prog.types[86]!, by kernel_rfl, by decide +kernel⟩
    · exact ⟨_, _, Try.underlying123, rfl, rfl, rfl, Try.prog.types[86]!, by kernel_rfl, by decide +kernel⟩
    · exact ⟨_, _, Try.underlying124, rfl, rfl, rfl, Try.prog.types[86]!, by kernel_rfl, by decide +kernel⟩
    · exact ⟨_, _, Try.underlying124, rfl, rfl, rfl, Try.prog.types[86]!, by kernel_rfl, by decide +kernel⟩
  sz := by
    intro p hp
    simp only [U, List.mem_cons, List.not_mem_nil, or_false] at hp
    rcases hp with rfl | rfl | rfl | rfl | rfl | rfl | rfl | rfl
    · exact ⟨Try.prog.types[3]!, by kernel_rfl, by kernel_rfl⟩
    · exact ⟨Try.prog.types[86]!, by kernel_rfl, by kernel_rfl⟩
    · exact ⟨Try.prog.types[87]!, by kernel_rfl, by kernel_rfl⟩
    · exact ⟨Try.prog.types[88]!, by kernel_rfl, by kernel_rfl⟩
    · exact ⟨Try.prog.types[89]!, by kernel_rfl, by kernel_rfl⟩
    · exact ⟨Try.prog.types[123]!, by kernel_rfl, by kernel_rfl⟩
    · exact ⟨Try.prog.types[124]!, by kernel_rfl, by kernel_rfl⟩
    · exact ⟨Try.prog.types[125]!, by kernel_rfl, by kernel_rfl⟩
  ti := by
    intro p hp
    simp only [U, List.mem_cons, List.not_mem_nil, or_false] at hp
    rcases hp with rfl | rfl | rfl | rfl | rfl | rfl | rfl | rfl
    · exact ⟨Try.prog.types[3]!, by kernel_rfl, by kernel_rfl, by kernel_rfl, by kernel_rfl⟩
    · exact ⟨Try.prog.types[86]!, by kernel_rfl, by kernel_rfl, by kernel_rfl, by kernel_rfl⟩
    · exact ⟨Try.prog.types[87]!, by kernel_rfl, by kernel_rfl, by kernel_rfl, by kernel_rfl⟩
    · exact ⟨Try.prog.types[88]!, by kernel_rfl, by kernel_rfl, by kernel_rfl, by kernel_rfl⟩
    · exact ⟨Try.prog.types[89]!, by kernel_rfl, by kernel_rfl, by kernel_rfl, by kernel_rfl⟩
    · exact ⟨Try.prog.types[123]!, by kernel_rfl, by kernel_rfl, by kernel_rfl, by kernel_rfl⟩
    · exact ⟨Try.prog.types[124]!, by kernel_rfl, by kernel_rfl, by kernel_rfl, by kernel_rfl⟩
    · exact ⟨Try.prog.types[125]!, by kernel_rfl, by kernel_rfl, by kernel_rfl, by kernel_rfl⟩
  bld := by
    intro p hp
    simp only [U, List.mem_cons, List.not_mem_nil, or_false] at hp
    rcases hp with rfl | rfl | rfl | rfl
    · exact ⟨_, Try.underlying88, by kernel_rfl⟩
    · exact ⟨_, Try.underlying89, by kernel_rfl⟩
    · exact ⟨_, Try.underlying123, by kernel_rfl⟩
    · exact ⟨_, Try.underlying124, by kernel_rfl⟩
  mixed := by kernel_rfl

theorem f_Mul_spec (xs : List Int) (v : Int) (ys : List Int) (w : Int) (hE : El xs v) (hl : xs.length = 5) (hF : El ys w) (hm : ys.length = 5) :
    CallsS Try.prog 75 [ag .u64 xs, ag .u64 ys] [] (fun r D => ∃ (zs : List Int), r = ag .u64 zs ∧ D = [] ∧ (El zs ((v * w) % P)) ∧ (zs.length = 5)) := by
  refine CallsS.enter hU Try.f75 _ [.cell 4 89] 128 Try.func75 rfl (by decide) rfl rfl (by kernel_rfl) fun w0 W => ?_
  have hIx : In .u64 xs := hE.lim.inn (by decide)
  have hIy : In .u64 ys := hF.lim.inn (by decide)
  refine RunC.sr ?_
  refine RunR.st (some 2) (.box 89 (.tmp 0)) (Step.box (ag .u64 xs) (by kernel_rfl) (by kernel_rfl) (fun b1 => ?_))
  refine RunR.st (some 3) (.box 89 (.tmp 1)) (Step.box (ag .u64 ys) (by kernel_rfl) (by kernel_rfl) (fun b2 => ?_))
  refine RunR.st (some 4) (.alloc 89) (Step.al hU 5 40 z5 (fun b3 => ?_))
  have hl4 : (List.replicate 5 (0 : Int)).length = 5 := List.length_replicate
  refine RunR.nx ?_
  refine RunR.st (some 5) (.alloc 125) (Step.al hU 10 80 (.agg #[.int .u64 0, .int .u64 0, .int .u64 0, .int .u64 0, .int .u64 0, .int .u64 0, .int .u64 0, .int .u64 0, .int .u64 0, .int .u64 0]) (fun b5 => ?_))
  have hl6 : (List.replicate 10 (0 : Int)).length = 10 := List.length_replicate
  refine RunR.nn ?_
  refine RunC.seq ?_
  refine RunC.sr ?_
  refine RunR.sl hU [] 1 1 [3, 4, 5, 18] [(3, pt b2), (4, pt b3), (5, pt b5), (18, pt b1)] 1 ?_
  refine RunR.st (some 19) (.load 87 (.tmp 18)) (Step.load_blk hU 3 b1 (0) 89 (nums .u64 xs) (ag .u64 xs) (by kernel_rfl) (by kernel_rfl) (loadv_seg (n := 5) (by kernel_rfl) (by kernel_rfl) (show Seg _ 0 _ from Seg.all _) (by rw [nums_length]; assumption)) (by kernel_rfl) ?_)
  refine RunR.sl hU [] 1 3 [3, 4, 5, 19, 20] [(3, pt b2), (4, pt b3), (5, pt b5), (19, ag .u64 xs), (20, .int .i64 0)] 1 ?_
  refine RunR.nn ?_
  refine RunC.block ?_
  refine RunC.env [3, 4, 5, 19, 20] [(3, pt b2), (4, pt b3), (5, pt b5), (19, ag .u64 xs), (20, .int .i64 0)] (by kernel_rfl) ?_
  refine RunC.only [0, 0, 0, 0] [blk b5 125 (nums .u64 (List.replicate 10 (0 : Int))), blk b3 89 (nums .u64 (List.replicate 5 (0 : Int))), blk b2 89 (nums .u64 ys), blk b1 89 (nums .u64 xs)] (by kernel_rfl) ?_
  refine RunC.loop (σ := Nat) (fun n_ t_ D_ => ∃ (i : Int) (L : List Int), (0 ≤ i) ∧ (i ≤ 5) ∧ (Sums xs ys (5 * i.toNat) L) ∧ (In .u64 L) ∧ (In .u64 xs) ∧ (In .u64 ys) ∧ (L.length = 10) ∧ n_ = ((5 - i).toNat : Nat) ∧ t_ = [(3, pt b2), (4, pt b3), (5, pt b5), (19, ag .u64 xs), (20, .int .i64 i)] ∧ D_ = [blk b5 125 (nums .u64 L), blk b3 89 (nums .u64 (List.replicate 5 (0 : Int))), blk b2 89 (nums .u64 ys), blk b1 89 (nums .u64 xs)]) id _ ⟨0, (List.replicate 10 (0 : Int)), (by omega), (by omega), (by exact sums_zero _ _), (by (repeat with_reducible exact In.replicate _ _)), (by assumption), (by assumption), (by rfl), rfl, rfl, rfl⟩ ?_
  rintro n_ _ _ ⟨i, L, hi, hi2, hS, hLi, hIx2, hIy2, hLl, rfl, rfl, rfl⟩
  refine RunC.sr ?_
  refine RunR.sl hU [] 1 1 [3, 4, 5, 19, 20, 21] [(3, pt b2), (4, pt b3), (5, pt b5), (19, ag .u64 xs), (20, .int .i64 i), (21, .bool (decide (i < 5)))] 1 ?_
  refine RunR.nn ?_
  refine RunC.seq ?_
  refine RunC.condp (i < 5) (by kernel_rfl) (fun h7 => ?_) (fun h7 => ?_)
  · skip
    refine RunC.ks ?_
    refine RunC.seq ?_
    refine RunC.block ?_
    refine RunC.sr ?_
    refine RunR.sil hU [] 4 4 [3, 4, 5, 6, 7, 19, 20] [(3, pt b2), (4, pt b3), (5, pt b5), (6, .int .i64 i), (7, (nums .u64 xs).toArray.getD (i).toNat undef), (19, ag .u64 xs), (20, .int .i64 i)] ((True) ∧ ((0 ≤ i ∧ i < ((5 : Nat) : Int)) ∧ (i).toNat < (nums .u64 xs).toArray.size) ∧ (True) ∧ (True) ∧ True) rfl (by kernel_rfl) ⟨trivial, (by (refine ⟨by omega, by simp only [List.size_toArray, nums_length, List.length_cons, List.length_nil]; omega⟩)), trivial, trivial, trivial⟩ ?_
    refine RunR.ev [3, 4, 5, 6, 7, 19, 20] [(3, pt b2), (4, pt b3), (5, pt b5), (6, .int .i64 i), (7, (nums .u64 xs).toArray.getD (i).toNat undef), (19, ag .u64 xs), (20, .int .i64 i)] ?_
    refine RunR.enveq [(3, pt b2), (4, pt b3), (5, pt b5), (6, .int .i64 i), (7, .int .u64 (xs.getD (i).toNat 0)), (19, ag .u64 xs), (20, .int .i64 i)] (by rw [nums_getD _ _ _ (by omega)]) ?_
    have hb8 : 0 ≤ xs.getD ((i).toNat) 0 ∧ xs.getD ((i).toNat) 0 < 18446744073709551616 := hIx2.at_ _
    refine RunR.nx ?_
    refine RunR.sl hU [] 1 1 [3, 4, 5, 6, 7, 19, 20, 24] [(3, pt b2), (4, pt b3), (5, pt b5), (6, .int .i64 i), (7, .int .u64 (xs.getD (i).toNat 0)), (19, ag .u64 xs), (20, .int .i64 i), (24, pt b2)] 1 ?_
    refine RunR.st (some 25) (.load 87 (.tmp 24)) (Step.load_blk hU 2 b2 (0) 89 (nums .u64 ys) (ag .u64 ys) (by kernel_rfl) (by kernel_rfl) (loadv_seg (n := 5) (by kernel_rfl) (by kernel_rfl) (show Seg _ 0 _ from Seg.all _) (by rw [nums_length]; assumption)) (by kernel_rfl) ?_)
    refine RunR.sl hU [] 1 3 [3, 4, 5, 6, 7, 19, 20, 25, 26] [(3, pt b2), (4, pt b3), (5, pt b5), (6, .int .i64 i), (7, .int .u64 (xs.getD (i).toNat 0)), (19, ag .u64 xs), (20, .int .i64 i), (25, ag .u64 ys), (26, .int .i64 0)] 1 ?_
    refine RunR.nn ?_
    refine RunC.block ?_
    refine RunC.env [3, 4, 5, 6, 7, 19, 20, 25, 26] [(3, pt b2), (4, pt b3), (5, pt b5), (6, .int .i64 i), (7, .int .u64 (xs.getD (i).toNat 0)), (19, ag .u64 xs), (20, .int .i64 i), (25, ag .u64 ys), (26, .int .i64 0)] (by kernel_rfl) ?_
    refine RunC.only [0, 0, 0, 0] [blk b5 125 (nums .u64 L), blk b3 89 (nums .u64 (List.replicate 5 (0 : Int))), blk b2 89 (nums .u64 ys), blk b1 89 (nums .u64 xs)] (by kernel_rfl) ?_
    refine RunC.loop (σ := Nat) (fun n_ t_ D_ => ∃ (k : Int) (M : List Int), (0 ≤ k) ∧ (k ≤ 5) ∧ (Sums xs ys (5 * i.toNat + k.toNat) M) ∧ (In .u64 M) ∧ (M.length = 10) ∧ n_ = ((5 - k).toNat : Nat) ∧ t_ = [(3, pt b2), (4, pt b3), (5, pt b5), (6, .int .i64 i), (7, .int .u64 (xs.getD (i).toNat 0)), (19, ag .u64 xs), (20, .int .i64 i), (25, ag .u64 ys), (26, .int .i64 k)] ∧ D_ = [blk b5 125 (nums .u64 M), blk b3 89 (nums .u64 (List.replicate 5 (0 : Int))), blk b2 89 (nums .u64 ys), blk b1 89 (nums .u64 xs)]) id _ ⟨0, L, (by omega), (by omega), (by exact hS), hLi, (by exact hLl), rfl, rfl, rfl⟩ ?_
    rintro n_ _ _ ⟨k, M, hk, hk2, hS2, hMi, hMl, rfl, rfl, rfl⟩
    refine RunC.sr ?_
    refine RunR.sl hU [] 1 1 [3, 4, 5, 6, 7, 19, 20, 25, 26, 27] [(3, pt b2), (4, pt b3), (5, pt b5), (6, .int .i64 i), (7, .int .u64 (xs.getD (i).toNat 0)), (19, ag .u64 xs), (20, .int .i64 i), (25, ag .u64 ys), (26, .int .i64 k), (27, .bool (decide (k < 5)))] 1 ?_
    refine RunR.nn ?_
    refine RunC.seq ?_
    refine RunC.condp (k < 5) (by kernel_rfl) (fun h9 => ?_) (fun h9 => ?_)
    · skip
      refine RunC.ks ?_
      refine RunC.seq ?_
      refine RunC.block ?_
      refine RunC.sr ?_
      refine RunR.sil hU [] 4 4 [3, 4, 5, 6, 7, 8, 9, 19, 20, 25, 26] [(3, pt b2), (4, pt b3), (5, pt b5), (6, .int .i64 i), (7, .int .u64 (xs.getD (i).toNat 0)), (8, .int .i64 k), (9, (nums .u64 ys).toArray.getD (k).toNat undef), (19, ag .u64 xs), (20, .int .i64 i), (25, ag .u64 ys), (26, .int .i64 k)] ((True) ∧ ((0 ≤ k ∧ k < ((5 : Nat) : Int)) ∧ (k).toNat < (nums .u64 ys).toArray.size) ∧ (True) ∧ (True) ∧ True) rfl (by kernel_rfl) ⟨trivial, (by (refine ⟨by omega, by simp only [List.size_toArray, nums_length, List.length_cons, List.length_nil]; omega⟩)), trivial, trivial, trivial⟩ ?_
      refine RunR.ev [3, 4, 5, 6, 7, 8, 9, 19, 20, 25, 26] [(3, pt b2), (4, pt b3), (5, pt b5), (6, .int .i64 i), (7, .int .u64 (xs.getD (i).toNat 0)), (8, .int .i64 k), (9, (nums .u64 ys).toArray.getD (k).toNat undef), (19, ag .u64 xs), (20, .int .i64 i), (25, ag .u64 ys), (26, .int .i64 k)] ?_
      refine RunR.enveq [(3, pt b2), (4, pt b3), (5, pt b5), (6, .int .i64 i), (7, .int .u64 (xs.getD (i).toNat 0)), (8, .int .i64 k), (9, .int .u64 (ys.getD (k).toNat 0)), (19, ag .u64 xs), (20, .int .i64 i), (25, ag .u64 ys), (26, .int .i64 k)] (by rw [nums_getD _ _ _ (by omega)]) ?_
      have hb10 : 0 ≤ ys.getD ((k).toNat) 0 ∧ ys.getD ((k).toNat) 0 < 18446744073709551616 := hIy2.at_ _
      refine RunR.nn ?_
      refine RunC.seq ?_
      refine RunC.sr ?_
      refine RunR.sil hU [2] 4 4 [3, 4, 5, 6, 7, 8, 9, 19, 20, 25, 26, 33] [(3, pt b2), (4, pt b3), (5, pt b5), (6, .int .i64 i), (7, .int .u64 (xs.getD (i).toNat 0)), (8, .int .i64 k), (9, .int .u64 (ys.getD (k).toNat 0)), (19, ag .u64 xs), (20, .int .i64 i), (25, ag .u64 ys), (26, .int .i64 k), (33, .bool (decide ((i + k) ≥ 5)))] ((True) ∧ (True) ∧ (-9223372036854775808 ≤ (i + k) ∧ (i + k) < 9223372036854775808) ∧ (True) ∧ True) rfl (by kernel_rfl) ⟨trivial, trivial, (by omega), trivial, trivial⟩ ?_
      refine RunR.nn ?_
      refine RunC.condp ((i + k) ≥ 5) (by kernel_rfl) (fun h11 => ?_) (fun h11 => ?_)
      · skip
        refine RunC.region ?_
        refine RunR.sl hU [] 3 3 [3, 4, 5, 6, 7, 8, 9, 19, 20, 25, 26] [(3, pt b2), (4, pt b3), (5, pt b5), (6, .int .i64 i), (7, .int .u64 (xs.getD (i).toNat 0)), (8, .int .i64 k), (9, .int .u64 (IntKind.wrap .u64 ((ys.getD (k).toNat 0) * 19))), (19, ag .u64 xs), (20, .int .i64 i), (25, ag .u64 ys), (26, .int .i64 k)] 3 ?_
        refine RunR.nn ?_
        refine RunC.region ?_
        refine RunR.sil hU [2, 3, 6, 7] 9 9 [3, 4, 5, 6, 7, 9, 19, 20, 25, 26, 39, 44] [(3, pt b2), (4, pt b3), (5, pt b5), (6, .int .i64 i), (7, .int .u64 (xs.getD (i).toNat 0)), (9, .int .u64 (IntKind.wrap .u64 ((ys.getD (k).toNat 0) * 19))), (19, ag .u64 xs), (20, .int .i64 i), (25, ag .u64 ys), (26, .int .i64 k), (39, .int .i64 ((i + k) % (5 : Int))), (44, .pointer (some ⟨b5, 0 + ((i + k) % (5 : Int)).toNat * 2, none⟩))] ((True) ∧ (True) ∧ (-9223372036854775808 ≤ (i + k) ∧ (i + k) < 9223372036854775808) ∧ (0 ≤ (i + k) ∧ 0 < (5 : Int)) ∧ (True) ∧ (True) ∧ (-9223372036854775808 ≤ (i + k) ∧ (i + k) < 9223372036854775808) ∧ (0 ≤ (i + k) ∧ 0 < (5 : Int)) ∧ (0 ≤ ((i + k) % (5 : Int)) ∧ ((i + k) % (5 : Int)) < ((5 : Nat) : Int)) ∧ True) rfl (by kernel_rfl) ⟨trivial, trivial, (by omega), (by omega), trivial, trivial, (by omega), (by omega), (by omega), trivial⟩ ?_
        refine RunR.st (some 45) (.load 124 (.tmp 44)) (Step.load_blk hU 0 b5 (0 + ((i + k) % (5 : Int)).toNat * 2) 125 (nums .u64 M) (.agg #[.int .u64 (M.getD (0 + ((i + k) % (5 : Int)).toNat * 2) 0), .int .u64 (M.getD (0 + ((i + k) % (5 : Int)).toNat * 2 + 1) 0)]) (by kernel_rfl) (by kernel_rfl) (loadv_seg (n := 2) (by kernel_rfl) (by kernel_rfl) (Seg.pair (by omega)) rfl) (by kernel_rfl) ?_)
        have hb12 : 0 ≤ M.getD (0 + ((i + k) % (5 : Int)).toNat * 2) 0 ∧ M.getD (0 + ((i + k) % (5 : Int)).toNat * 2) 0 < 18446744073709551616 := hMi.at_ _
        have hb13 : 0 ≤ M.getD (0 + ((i + k) % (5 : Int)).toNat * 2 + 1) 0 ∧ M.getD (0 + ((i + k) % (5 : Int)).toNat * 2 + 1) 0 < 18446744073709551616 := hMi.at_ _
        refine RunR.sl hU [] 2 12 [3, 4, 5, 6, 7, 19, 20, 25, 26, 39, 45, 46, 47] [(3, pt b2), (4, pt b3), (5, pt b5), (6, .int .i64 i), (7, .int .u64 (xs.getD (i).toNat 0)), (19, ag .u64 xs), (20, .int .i64 i), (25, ag .u64 ys), (26, .int .i64 k), (39, .int .i64 ((i + k) % (5 : Int))), (45, .agg #[.int .u64 (M.getD (0 + ((i + k) % (5 : Int)).toNat * 2) 0), .int .u64 (M.getD (0 + ((i + k) % (5 : Int)).toNat * 2 + 1) 0)]), (46, .int .u64 (xs.getD (i).toNat 0)), (47, .int .u64 (IntKind.wrap .u64 ((ys.getD (k).toNat 0) * 19)))] 2 ?_
        refine RunR.st (some 48) (.call { callee := .value (.func 93), args := #[.tmp 45, .tmp 46, .tmp 47], argTypes := #[124, 86, 86] }) (Step.cn 93 [.agg #[.int .u64 (M.getD (0 + ((i + k) % (5 : Int)).toNat * 2) 0), .int .u64 (M.getD (0 + ((i + k) % (5 : Int)).toNat * 2 + 1) 0)], .int .u64 (xs.getD (i).toNat 0), .int .u64 (IntKind.wrap .u64 ((ys.getD (k).toNat 0) * 19))] [] [blk b5 125 (nums .u64 M), blk b3 89 (nums .u64 (List.replicate 5 (0 : Int))), blk b2 89 (nums .u64 ys), blk b1 89 (nums .u64 xs)] (f_plus_spec (M.getD (0 + ((i + k) % (5 : Int)).toNat * 2) 0) (M.getD (0 + ((i + k) % (5 : Int)).toNat * 2 + 1) 0) (xs.getD (i).toNat 0) (IntKind.wrap .u64 ((ys.getD (k).toNat 0) * 19)) (by assumption) (by assumption) (by assumption) (by exact (sums_room (ix := 0 + ((i + k) % 5).toNat * 2) (a := xs.getD i.toNat 0) hE.lim hF.lim hS2 (n := 5 * i.toNat + k.toNat) (j := ((i + k) % 5).toNat) (by omega) (at_col (by omega) (by omega) (by omega) (by omega)) (by omega) (by rw [show (5 * i.toNat + k.toNat) / 5 = i.toNat by omega]) (by exact factor_19 hF.lim (by omega) (by omega))).2.2) (by exact (sums_room (ix := 0 + ((i + k) % 5).toNat * 2) (a := xs.getD i.toNat 0) hE.lim hF.lim hS2 (n := 5 * i.toNat + k.toNat) (j := ((i + k) % 5).toNat) (by omega) (at_col (by omega) (by omega) (by omega) (by omega)) (by omega) (by rw [show (5 * i.toNat + k.toNat) / 5 = i.toNat by omega]) (by exact factor_19 hF.lim (by omega) (by omega))).1) (by exact (sums_room (ix := 0 + ((i + k) % 5).toNat * 2) (a := xs.getD i.toNat 0) hE.lim hF.lim hS2 (n := 5 * i.toNat + k.toNat) (j := ((i + k) % 5).toNat) (by omega) (at_col (by omega) (by omega) (by omega) (by omega)) (by omega) (by rw [show (5 * i.toNat + k.toNat) / 5 = i.toNat by omega]) (by exact factor_19 hF.lim (by omega) (by omega))).2.1)) [] ?_)
        rintro _ _ ⟨k14, m15, rfl, rfl, hp16, hp17, hp18⟩
        refine RunR.sil hU [] 1 14 [3, 4, 5, 6, 7, 19, 20, 25, 26, 48, 49] [(3, pt b2), (4, pt b3), (5, pt b5), (6, .int .i64 i), (7, .int .u64 (xs.getD (i).toNat 0)), (19, ag .u64 xs), (20, .int .i64 i), (25, ag .u64 ys), (26, .int .i64 k), (48, .agg #[.int .u64 k14, .int .u64 m15]), (49, .pointer (some ⟨b5, 0 + ((i + k) % (5 : Int)).toNat * 2, none⟩))] ((0 ≤ ((i + k) % (5 : Int)) ∧ ((i + k) % (5 : Int)) < ((5 : Nat) : Int)) ∧ True) rfl (by kernel_rfl) ⟨(by omega), trivial⟩ ?_
        refine RunR.st none (.store 124 (.tmp 49) (.tmp 48)) (Step.store_seg hU 0 b5 (0 + ((i + k) % (5 : Int)).toNat * 2) 125 (nums .u64 M) (nums .u64 ((M.set (0 + ((i + k) % (5 : Int)).toNat * 2) k14).set (0 + ((i + k) % (5 : Int)).toNat * 2 + 1) m15)) [.int .u64 k14, .int .u64 m15] (.agg #[.int .u64 k14, .int .u64 m15]) (by kernel_rfl) (by kernel_rfl) (by kernel_rfl) 2 (by kernel_rfl) (by kernel_rfl) rfl rfl (Put.pair (by omega)) ?_)
        have hl19 : ((M.set (0 + ((i + k) % (5 : Int)).toNat * 2) k14).set (0 + ((i + k) % (5 : Int)).toNat * 2 + 1) m15).length = M.length := by rw [List.length_set, List.length_set]
        refine RunR.dn ?_
        refine kblock_n ?_
        refine kseq_n ?_
        refine RunC.region ?_
        refine RunR.sil hU [0] 2 2 [3, 4, 5, 6, 7, 19, 20, 25, 26] [(3, pt b2), (4, pt b3), (5, pt b5), (6, .int .i64 i), (7, .int .u64 (xs.getD (i).toNat 0)), (19, ag .u64 xs), (20, .int .i64 i), (25, ag .u64 ys), (26, .int .i64 (k + 1))] ((-9223372036854775808 ≤ (k + 1) ∧ (k + 1) < 9223372036854775808) ∧ (True) ∧ True) rfl (by kernel_rfl) ⟨(by omega), trivial, trivial⟩ ?_
        refine RunR.dn ?_
        refine kloop_n _ [3, 4, 5, 6, 7, 19, 20, 25, 26] [0, 0, 0, 0] [(3, pt b2), (4, pt b3), (5, pt b5), (6, .int .i64 i), (7, .int .u64 (xs.getD (i).toNat 0)), (19, ag .u64 xs), (20, .int .i64 i), (25, ag .u64 ys), (26, .int .i64 (k + 1))] [blk b5 125 (nums .u64 ((M.set (0 + ((i + k) % (5 : Int)).toNat * 2) k14).set (0 + ((i + k) % (5 : Int)).toNat * 2 + 1) m15)), blk b3 89 (nums .u64 (List.replicate 5 (0 : Int))), blk b2 89 (nums .u64 ys), blk b1 89 (nums .u64 xs)] (by kernel_rfl) (by kernel_rfl) ?_ ⟨(k + 1), ((M.set (0 + ((i + k) % (5 : Int)).toNat * 2) k14).set (0 + ((i + k) % (5 : Int)).toNat * 2 + 1) m15), (by omega), (by assumption), (by rw [show 5 * i.toNat + (k + 1).toNat = 5 * i.toNat + k.toNat + 1 by omega]; exact sums_step hS2 (j := ((i + k) % 5).toNat) (at_col (by omega) (by omega) (by omega) (by omega)) (by omega) (by rw [show (5 * i.toNat + k.toNat) / 5 = i.toNat by omega]) (by exact factor_19 hF.lim (by omega) (by omega)) (by assumption)), (by (repeat first | assumption | with_reducible apply In.set)), (by rw [List.length_set, List.length_set]; exact hMl), rfl, (by rfl), (by rfl)⟩
        show ((5 - (k + 1)).toNat : Nat) < ((5 - k).toNat : Nat)
        omega
      · skip
        refine RunC.ks ?_
        refine RunC.region ?_
        refine RunR.sil hU [2, 3, 6, 7] 9 9 [3, 4, 5, 6, 7, 9, 19, 20, 25, 26, 39, 44] [(3, pt b2), (4, pt b3), (5, pt b5), (6, .int .i64 i), (7, .int .u64 (xs.getD (i).toNat 0)), (9, .int .u64 (ys.getD (k).toNat 0)), (19, ag .u64 xs), (20, .int .i64 i), (25, ag .u64 ys), (26, .int .i64 k), (39, .int .i64 ((i + k) % (5 : Int))), (44, .pointer (some ⟨b5, 0 + ((i + k) % (5 : Int)).toNat * 2, none⟩))] ((True) ∧ (True) ∧ (-9223372036854775808 ≤ (i + k) ∧ (i + k) < 9223372036854775808) ∧ (0 ≤ (i + k) ∧ 0 < (5 : Int)) ∧ (True) ∧ (True) ∧ (-9223372036854775808 ≤ (i + k) ∧ (i + k) < 9223372036854775808) ∧ (0 ≤ (i + k) ∧ 0 < (5 : Int)) ∧ (0 ≤ ((i + k) % (5 : Int)) ∧ ((i + k) % (5 : Int)) < ((5 : Nat) : Int)) ∧ True) rfl (by kernel_rfl) ⟨trivial, trivial, (by omega), (by omega), trivial, trivial, (by omega), (by omega), (by omega), trivial⟩ ?_
        refine RunR.st (some 45) (.load 124 (.tmp 44)) (Step.load_blk hU 0 b5 (0 + ((i + k) % (5 : Int)).toNat * 2) 125 (nums .u64 M) (.agg #[.int .u64 (M.getD (0 + ((i + k) % (5 : Int)).toNat * 2) 0), .int .u64 (M.getD (0 + ((i + k) % (5 : Int)).toNat * 2 + 1) 0)]) (by kernel_rfl) (by kernel_rfl) (loadv_seg (n := 2) (by kernel_rfl) (by kernel_rfl) (Seg.pair (by omega)) rfl) (by kernel_rfl) ?_)
        have hb20 : 0 ≤ M.getD (0 + ((i + k) % (5 : Int)).toNat * 2) 0 ∧ M.getD (0 + ((i + k) % (5 : Int)).toNat * 2) 0 < 18446744073709551616 := hMi.at_ _
        have hb21 : 0 ≤ M.getD (0 + ((i + k) % (5 : Int)).toNat * 2 + 1) 0 ∧ M.getD (0 + ((i + k) % (5 : Int)).toNat * 2 + 1) 0 < 18446744073709551616 := hMi.at_ _
        refine RunR.sl hU [] 2 12 [3, 4, 5, 6, 7, 19, 20, 25, 26, 39, 45, 46, 47] [(3, pt b2), (4, pt b3), (5, pt b5), (6, .int .i64 i), (7, .int .u64 (xs.getD (i).toNat 0)), (19, ag .u64 xs), (20, .int .i64 i), (25, ag .u64 ys), (26, .int .i64 k), (39, .int .i64 ((i + k) % (5 : Int))), (45, .agg #[.int .u64 (M.getD (0 + ((i + k) % (5 : Int)).toNat * 2) 0), .int .u64 (M.getD (0 + ((i + k) % (5 : Int)).toNat * 2 + 1) 0)]), (46, .int .u64 (xs.getD (i).toNat 0)), (47, .int .u64 (ys.getD (k).toNat 0))] 2 ?_
        refine RunR.st (some 48) (.call { callee := .value (.func 93), args := #[.tmp 45, .tmp 46, .tmp 47], argTypes := #[124, 86, 86] }) (Step.cn 93 [.agg #[.int .u64 (M.getD (0 + ((i + k) % (5 : Int)).toNat * 2) 0), .int .u64 (M.getD (0 + ((i + k) % (5 : Int)).toNat * 2 + 1) 0)], .int .u64 (xs.getD (i).toNat 0), .int .u64 (ys.getD (k).toNat 0)] [] [blk b5 125 (nums .u64 M), blk b3 89 (nums .u64 (List.replicate 5 (0 : Int))), blk b2 89 (nums .u64 ys), blk b1 89 (nums .u64 xs)] (f_plus_spec (M.getD (0 + ((i + k) % (5 : Int)).toNat * 2) 0) (M.getD (0 + ((i + k) % (5 : Int)).toNat * 2 + 1) 0) (xs.getD (i).toNat 0) (ys.getD (k).toNat 0) (by assumption) (by assumption) (by assumption) (by exact (sums_room (ix := 0 + ((i + k) % 5).toNat * 2) (a := xs.getD i.toNat 0) hE.lim hF.lim hS2 (n := 5 * i.toNat + k.toNat) (j := ((i + k) % 5).toNat) (by omega) (at_col (by omega) (by omega) (by omega) (by omega)) (by omega) (by rw [show (5 * i.toNat + k.toNat) / 5 = i.toNat by omega]) (by exact factor_1 (by omega) (by omega))).2.2) (by exact (sums_room (ix := 0 + ((i + k) % 5).toNat * 2) (a := xs.getD i.toNat 0) hE.lim hF.lim hS2 (n := 5 * i.toNat + k.toNat) (j := ((i + k) % 5).toNat) (by omega) (at_col (by omega) (by omega) (by omega) (by omega)) (by omega) (by rw [show (5 * i.toNat + k.toNat) / 5 = i.toNat by omega]) (by exact factor_1 (by omega) (by omega))).1) (by exact (sums_room (ix := 0 + ((i + k) % 5).toNat * 2) (a := xs.getD i.toNat 0) hE.lim hF.lim hS2 (n := 5 * i.toNat + k.toNat) (j := ((i + k) % 5).toNat) (by omega) (at_col (by omega) (by omega) (by omega) (by omega)) (by omega) (by rw [show (5 * i.toNat + k.toNat) / 5 = i.toNat by omega]) (by exact factor_1 (by omega) (by omega))).2.1)) [] ?_)
        rintro _ _ ⟨k22, m23, rfl, rfl, hp24, hp25, hp26⟩
        refine RunR.sil hU [] 1 14 [3, 4, 5, 6, 7, 19, 20, 25, 26, 48, 49] [(3, pt b2), (4, pt b3), (5, pt b5), (6, .int .i64 i), (7, .int .u64 (xs.getD (i).toNat 0)), (19, ag .u64 xs), (20, .int .i64 i), (25, ag .u64 ys), (26, .int .i64 k), (48, .agg #[.int .u64 k22, .int .u64 m23]), (49, .pointer (some ⟨b5, 0 + ((i + k) % (5 : Int)).toNat * 2, none⟩))] ((0 ≤ ((i + k) % (5 : Int)) ∧ ((i + k) % (5 : Int)) < ((5 : Nat) : Int)) ∧ True) rfl (by kernel_rfl) ⟨(by omega), trivial⟩ ?_
        refine RunR.st none (.store 124 (.tmp 49) (.tmp 48)) (Step.store_seg hU 0 b5 (0 + ((i + k) % (5 : Int)).toNat * 2) 125 (nums .u64 M) (nums .u64 ((M.set (0 + ((i + k) % (5 : Int)).toNat * 2) k22).set (0 + ((i + k) % (5 : Int)).toNat * 2 + 1) m23)) [.int .u64 k22, .int .u64 m23] (.agg #[.int .u64 k22, .int .u64 m23]) (by kernel_rfl) (by kernel_rfl) (by kernel_rfl) 2 (by kernel_rfl) (by kernel_rfl) rfl rfl (Put.pair (by omega)) ?_)
        have hl27 : ((M.set (0 + ((i + k) % (5 : Int)).toNat * 2) k22).set (0 + ((i + k) % (5 : Int)).toNat * 2 + 1) m23).length = M.length := by rw [List.length_set, List.length_set]
        refine RunR.dn ?_
        refine kblock_n ?_
        refine kseq_n ?_
        refine RunC.region ?_
        refine RunR.sil hU [0] 2 2 [3, 4, 5, 6, 7, 19, 20, 25, 26] [(3, pt b2), (4, pt b3), (5, pt b5), (6, .int .i64 i), (7, .int .u64 (xs.getD (i).toNat 0)), (19, ag .u64 xs), (20, .int .i64 i), (25, ag .u64 ys), (26, .int .i64 (k + 1))] ((-9223372036854775808 ≤ (k + 1) ∧ (k + 1) < 9223372036854775808) ∧ (True) ∧ True) rfl (by kernel_rfl) ⟨(by omega), trivial, trivial⟩ ?_
        refine RunR.dn ?_
        refine kloop_n _ [3, 4, 5, 6, 7, 19, 20, 25, 26] [0, 0, 0, 0] [(3, pt b2), (4, pt b3), (5, pt b5), (6, .int .i64 i), (7, .int .u64 (xs.getD (i).toNat 0)), (19, ag .u64 xs), (20, .int .i64 i), (25, ag .u64 ys), (26, .int .i64 (k + 1))] [blk b5 125 (nums .u64 ((M.set (0 + ((i + k) % (5 : Int)).toNat * 2) k22).set (0 + ((i + k) % (5 : Int)).toNat * 2 + 1) m23)), blk b3 89 (nums .u64 (List.replicate 5 (0 : Int))), blk b2 89 (nums .u64 ys), blk b1 89 (nums .u64 xs)] (by kernel_rfl) (by kernel_rfl) ?_ ⟨(k + 1), ((M.set (0 + ((i + k) % (5 : Int)).toNat * 2) k22).set (0 + ((i + k) % (5 : Int)).toNat * 2 + 1) m23), (by omega), (by assumption), (by rw [show 5 * i.toNat + (k + 1).toNat = 5 * i.toNat + k.toNat + 1 by omega]; exact sums_step hS2 (j := ((i + k) % 5).toNat) (at_col (by omega) (by omega) (by omega) (by omega)) (by omega) (by rw [show (5 * i.toNat + k.toNat) / 5 = i.toNat by omega]) (by exact factor_1 (by omega) (by omega)) (by assumption)), (by (repeat first | assumption | with_reducible apply In.set)), (by rw [List.length_set, List.length_set]; exact hMl), rfl, (by rfl), (by rfl)⟩
        show ((5 - (k + 1)).toNat : Nat) < ((5 - k).toNat : Nat)
        omega
    · skip
      refine RunC.exit ?_
      refine kseq_e ?_
      refine kloop_e ?_
      refine kblock_e ?_
      refine kblock_n ?_
      refine kseq_n ?_
      refine RunC.region ?_
      refine RunR.sil hU [0] 2 2 [3, 4, 5, 19, 20] [(3, pt b2), (4, pt b3), (5, pt b5), (19, ag .u64 xs), (20, .int .i64 (i + 1))] ((-9223372036854775808 ≤ (i + 1) ∧ (i + 1) < 9223372036854775808) ∧ (True) ∧ True) rfl (by kernel_rfl) ⟨(by omega), trivial, trivial⟩ ?_
      refine RunR.dn ?_
      refine kloop_n _ [3, 4, 5, 19, 20] [0, 0, 0, 0] [(3, pt b2), (4, pt b3), (5, pt b5), (19, ag .u64 xs), (20, .int .i64 (i + 1))] [blk b5 125 (nums .u64 M), blk b3 89 (nums .u64 (List.replicate 5 (0 : Int))), blk b2 89 (nums .u64 ys), blk b1 89 (nums .u64 xs)] (by kernel_rfl) (by kernel_rfl) ?_ ⟨(i + 1), M, (by omega), (by assumption), (by rw [show 5 * (i + 1).toNat = 5 * i.toNat + k.toNat by omega]; exact hS2), hMi, (by assumption), (by assumption), (by exact hMl), rfl, (by rfl), (by rfl)⟩
      show ((5 - (i + 1)).toNat : Nat) < ((5 - i).toNat : Nat)
      omega
  · skip
    refine RunC.exit ?_
    refine kseq_e ?_
    refine kloop_e ?_
    refine kblock_e ?_
    refine kseq_n ?_
    refine RunC.sr ?_
    refine RunR.st (some 10) (.alloc 89) (Step.al hU 5 40 z5 (fun b28 => ?_))
    have hl29 : (List.replicate 5 (0 : Int)).length = 5 := List.length_replicate
    refine RunR.nx ?_
    refine RunR.sl hU [] 1 1 [4, 5, 10, 52] [(4, pt b3), (5, pt b5), (10, pt b28), (52, .agg #[.int .u64 0, .int .u64 0])] 1 ?_
    refine RunR.st (some 11) (.alloc 124) (Step.al hU 2 16 (.agg #[.int .u64 0, .int .u64 0]) (fun b30 => ?_))
    refine RunR.st none (.store 124 (.tmp 11) (.tmp 52)) (Step.store_blk hU 0 b30 0 124 [.int .u64 0, .int .u64 0] (.agg #[.int .u64 0, .int .u64 0]) (by kernel_rfl) (by kernel_rfl) (by kernel_rfl) 2 rfl [.int .u64 0, .int .u64 0] (by kernel_rfl) rfl (by kernel_rfl) (by decide) ?_)
    refine RunR.nn ?_
    refine RunC.seq ?_
    refine RunC.sr ?_
    refine RunR.st (some 53) (.load 125 (.tmp 5)) (Step.load_arr hU 2 b5 125 10 .u64 L (by kernel_rfl) (by kernel_rfl) (by kernel_rfl) (by kernel_rfl) (by omega) (by kernel_rfl) ?_)
    refine RunR.sl hU [] 1 2 [4, 10, 11, 53, 54] [(4, pt b3), (10, pt b28), (11, pt b30), (53, ag .u64 L), (54, .int .i64 0)] 1 ?_
    refine RunR.nn ?_
    refine RunC.block ?_
    refine RunC.env [4, 10, 11, 53, 54] [(4, pt b3), (10, pt b28), (11, pt b30), (53, ag .u64 L), (54, .int .i64 0)] (by kernel_rfl) ?_
    refine RunC.only [1, 0, 0, 0, 0, 0] [blk b28 89 (nums .u64 (List.replicate 5 (0 : Int))), blk b30 124 [.int .u64 0, .int .u64 0], blk b5 125 (nums .u64 L), blk b3 89 (nums .u64 (List.replicate 5 (0 : Int))), blk b2 89 (nums .u64 ys), blk b1 89 (nums .u64 xs)] (by kernel_rfl) ?_
    refine RunC.loop (σ := Nat) (fun n_ t_ D_ => ∃ (q : Int) (os : List Int) (ch : Int) (cl : Int), (0 ≤ q) ∧ (q ≤ 5) ∧ (os = outL xs ys q.toNat) ∧ (ch * 18446744073709551616 + cl = cc xs ys q.toNat) ∧ (0 ≤ ch ∧ ch < 18446744073709551616) ∧ (0 ≤ cl ∧ cl < 18446744073709551616) ∧ (In .u64 os) ∧ (os.length = 5) ∧ n_ = ((5 - q).toNat : Nat) ∧ t_ = [(4, pt b3), (10, pt b28), (11, pt b30), (53, ag .u64 L), (54, .int .i64 q)] ∧ D_ = [blk b28 89 (nums .u64 os), blk b30 124 [.int .u64 ch, .int .u64 cl], blk b5 125 (nums .u64 L), blk b3 89 (nums .u64 (List.replicate 5 (0 : Int))), blk b2 89 (nums .u64 ys), blk b1 89 (nums .u64 xs)]) id _ ⟨0, (List.replicate 5 (0 : Int)), 0, 0, (by omega), (by omega), (by rfl), (by rfl), (by omega), (by omega), (by (repeat with_reducible exact In.replicate _ _)), (by rfl), rfl, rfl, rfl⟩ ?_
    rintro n_ _ _ ⟨q, os, ch, cl, hq, hq2, ho, hcc, hch, hcl, hoi, hol, rfl, rfl, rfl⟩
    refine RunC.sr ?_
    refine RunR.sl hU [] 1 1 [4, 10, 11, 53, 54, 55] [(4, pt b3), (10, pt b28), (11, pt b30), (53, ag .u64 L), (54, .int .i64 q), (55, .bool (decide (q < 5)))] 1 ?_
    refine RunR.nn ?_
    refine RunC.seq ?_
    refine RunC.condp (q < 5) (by kernel_rfl) (fun h31 => ?_) (fun h31 => ?_)
    · skip
      refine RunC.ks ?_
      refine RunC.seq ?_
      refine RunC.block ?_
      refine RunC.sr ?_
      refine RunR.sil hU [] 2 2 [4, 10, 11, 53, 54, 56, 57] [(4, pt b3), (10, pt b28), (11, pt b30), (53, ag .u64 L), (54, .int .i64 q), (56, .int .i64 q), (57, .agg ((nums .u64 L).toArray.extract ((q).toNat * 2) ((q).toNat * 2 + 2)))] ((True) ∧ (0 ≤ q ∧ q < ((5 : Nat) : Int)) ∧ True) rfl (by kernel_rfl) ⟨trivial, (by omega), trivial⟩ ?_
      refine RunR.ev [4, 10, 11, 53, 54, 56, 57] [(4, pt b3), (10, pt b28), (11, pt b30), (53, ag .u64 L), (54, .int .i64 q), (56, .int .i64 q), (57, .agg ((nums .u64 L).toArray.extract ((q).toNat * 2) ((q).toNat * 2 + 2)))] ?_
      refine RunR.enveq [(4, pt b3), (10, pt b28), (11, pt b30), (53, ag .u64 L), (54, .int .i64 q), (56, .int .i64 q), (57, .agg #[.int .u64 (L.getD ((q).toNat * 2) 0), .int .u64 (L.getD ((q).toNat * 2 + 1) 0)])] (by rw [nums_extract2 _ _ _ (by omega)]) ?_
      have hb32 : 0 ≤ L.getD ((q).toNat * 2) 0 ∧ L.getD ((q).toNat * 2) 0 < 18446744073709551616 := hLi.at_ _
      have hb33 : 0 ≤ L.getD ((q).toNat * 2 + 1) 0 ∧ L.getD ((q).toNat * 2 + 1) 0 < 18446744073709551616 := hLi.at_ _
      refine RunR.st (some 13) (.alloc 124) (Step.al hU 2 16 (.agg #[.int .u64 0, .int .u64 0]) (fun b34 => ?_))
      refine RunR.sl hU [] 1 4 [4, 10, 11, 12, 13, 53, 54, 57] [(4, pt b3), (10, pt b28), (11, pt b30), (12, .int .i64 q), (13, pt b34), (53, ag .u64 L), (54, .int .i64 q), (57, .agg #[.int .u64 (L.getD ((q).toNat * 2) 0), .int .u64 (L.getD ((q).toNat * 2 + 1) 0)])] 1 ?_
      refine RunR.st none (.store 124 (.tmp 13) (.tmp 57)) (Step.store_blk hU 0 b34 0 124 [.int .u64 0, .int .u64 0] (.agg #[.int .u64 (L.getD ((q).toNat * 2) 0), .int .u64 (L.getD ((q).toNat * 2 + 1) 0)]) (by kernel_rfl) (by kernel_rfl) (by kernel_rfl) 2 rfl [.int .u64 (L.getD ((q).toNat * 2) 0), .int .u64 (L.getD ((q).toNat * 2 + 1) 0)] (by kernel_rfl) rfl (by kernel_rfl) (by decide) ?_)
      refine RunR.nx ?_
      refine RunR.sl hU [] 1 1 [4, 10, 11, 12, 13, 53, 54] [(4, pt b3), (10, pt b28), (11, pt b30), (12, .int .i64 q), (13, pt b34), (53, ag .u64 L), (54, .int .i64 q)] 1 ?_
      refine RunR.nx ?_
      refine RunR.sl hU [] 1 1 [4, 10, 11, 12, 13, 53, 54, 59] [(4, pt b3), (10, pt b28), (11, pt b30), (12, .int .i64 q), (13, pt b34), (53, ag .u64 L), (54, .int .i64 q), (59, .pointer (some ⟨b34, 1, none⟩))] 1 ?_
      refine RunR.st (some 60) (.load 86 (.tmp 59)) (Step.load_blk hU 0 b34 (1) 124 [.int .u64 (L.getD ((q).toNat * 2) 0), .int .u64 (L.getD ((q).toNat * 2 + 1) 0)] (.int .u64 (L.getD ((q).toNat * 2 + 1) 0)) (by kernel_rfl) (by kernel_rfl) (by kernel_rfl) (by kernel_rfl) ?_)
      refine RunR.sl hU [] 1 3 [4, 10, 11, 12, 13, 53, 54, 60, 61] [(4, pt b3), (10, pt b28), (11, pt b30), (12, .int .i64 q), (13, pt b34), (53, ag .u64 L), (54, .int .i64 q), (60, .int .u64 (L.getD ((q).toNat * 2 + 1) 0)), (61, .pointer (some ⟨b30, 1, none⟩))] 1 ?_
      refine RunR.st (some 62) (.load 86 (.tmp 61)) (Step.load_blk hU 2 b30 (1) 124 [.int .u64 ch, .int .u64 cl] (.int .u64 cl) (by kernel_rfl) (by kernel_rfl) (by kernel_rfl) (by kernel_rfl) ?_)
      refine RunR.st (some 63) (.call { callee := .value (.func 94), args := #[.tmp 60, .tmp 62, .const (.int .u64 0)], argTypes := #[86, 86, 86] }) (Step.extern 94 [.int .u64 (L.getD ((q).toNat * 2 + 1) 0), .int .u64 cl, .int .u64 0] Try.f94 add64e (.tuple #[.int .u64 (((L.getD ((q).toNat * 2 + 1) 0) + cl + (0 : Int)) % 18446744073709551616), .int .u64 (((L.getD ((q).toNat * 2 + 1) 0) + cl + (0 : Int)) / 18446744073709551616)]) (by kernel_rfl) Try.func94 (by kernel_rfl) (by kernel_rfl) (by kernel_rfl) (by kernel_rfl) (fun w => run_add64e (by omega) (by omega) (by omega)) (by kernel_rfl) ?_)
      obtain ⟨s35, s36, he37, he38⟩ : ∃ s35 s36 : Int, s35 = ((L.getD ((q).toNat * 2 + 1) 0) + cl + (0 : Int)) % 18446744073709551616 ∧ s36 = ((L.getD ((q).toNat * 2 + 1) 0) + cl + (0 : Int)) / 18446744073709551616 := ⟨_, _, rfl, rfl⟩
      refine RunR.ev [4, 10, 11, 12, 13, 53, 54, 60, 61, 62, 63] [(4, pt b3), (10, pt b28), (11, pt b30), (12, .int .i64 q), (13, pt b34), (53, ag .u64 L), (54, .int .i64 q), (60, .int .u64 (L.getD ((q).toNat * 2 + 1) 0)), (61, .pointer (some ⟨b30, 1, none⟩)), (62, .int .u64 cl), (63, .tuple #[.int .u64 (((L.getD ((q).toNat * 2 + 1) 0) + cl + (0 : Int)) % 18446744073709551616), .int .u64 (((L.getD ((q).toNat * 2 + 1) 0) + cl + (0 : Int)) / 18446744073709551616)])] ?_
      refine RunR.enveq [(4, pt b3), (10, pt b28), (11, pt b30), (12, .int .i64 q), (13, pt b34), (53, ag .u64 L), (54, .int .i64 q), (60, .int .u64 (L.getD ((q).toNat * 2 + 1) 0)), (61, .pointer (some ⟨b30, 1, none⟩)), (62, .int .u64 cl), (63, .tuple #[.int .u64 s35, .int .u64 s36])] (by rw [he37, he38]) ?_
      refine RunR.sl hU [] 4 9 [4, 10, 11, 12, 13, 53, 54, 64, 65, 66] [(4, pt b3), (10, pt b28), (11, pt b30), (12, .int .i64 q), (13, pt b34), (53, ag .u64 L), (54, .int .i64 q), (64, .int .u64 s35), (65, .int .u64 s36), (66, .pointer (some ⟨b34, 1, none⟩))] 4 ?_
      refine RunR.st none (.store 86 (.tmp 66) (.tmp 64)) (Step.store_blk hU 0 b34 1 124 [.int .u64 (L.getD ((q).toNat * 2) 0), .int .u64 (L.getD ((q).toNat * 2 + 1) 0)] (.int .u64 s35) (by kernel_rfl) (by kernel_rfl) (by kernel_rfl) 1 rfl [.int .u64 s35] (by kernel_rfl) rfl (by kernel_rfl) (by simp) ?_)
      refine RunR.sl hU [] 1 11 [4, 10, 11, 12, 13, 14, 53, 54] [(4, pt b3), (10, pt b28), (11, pt b30), (12, .int .i64 q), (13, pt b34), (14, .int .u64 s36), (53, ag .u64 L), (54, .int .i64 q)] 1 ?_
      refine RunR.nx ?_
      refine RunR.sl hU [] 1 1 [4, 10, 11, 12, 13, 14, 53, 54, 68] [(4, pt b3), (10, pt b28), (11, pt b30), (12, .int .i64 q), (13, pt b34), (14, .int .u64 s36), (53, ag .u64 L), (54, .int .i64 q), (68, pt b34)] 1 ?_
      refine RunR.st (some 69) (.load 86 (.tmp 68)) (Step.load_blk hU 0 b34 (0) 124 [.int .u64 (L.getD ((q).toNat * 2) 0), .int .u64 s35] (.int .u64 (L.getD ((q).toNat * 2) 0)) (by kernel_rfl) (by kernel_rfl) (by kernel_rfl) (by kernel_rfl) ?_)
      refine RunR.sl hU [] 1 3 [4, 10, 11, 12, 13, 14, 53, 54, 69, 70] [(4, pt b3), (10, pt b28), (11, pt b30), (12, .int .i64 q), (13, pt b34), (14, .int .u64 s36), (53, ag .u64 L), (54, .int .i64 q), (69, .int .u64 (L.getD ((q).toNat * 2) 0)), (70, pt b30)] 1 ?_
      refine RunR.st (some 71) (.load 86 (.tmp 70)) (Step.load_blk hU 2 b30 (0) 124 [.int .u64 ch, .int .u64 cl] (.int .u64 ch) (by kernel_rfl) (by kernel_rfl) (by kernel_rfl) (by kernel_rfl) ?_)
      refine RunR.sl hU [] 1 5 [4, 10, 11, 12, 13, 53, 54, 69, 71, 72] [(4, pt b3), (10, pt b28), (11, pt b30), (12, .int .i64 q), (13, pt b34), (53, ag .u64 L), (54, .int .i64 q), (69, .int .u64 (L.getD ((q).toNat * 2) 0)), (71, .int .u64 ch), (72, .int .u64 s36)] 1 ?_
      refine RunR.st (some 73) (.call { callee := .value (.func 94), args := #[.tmp 69, .tmp 71, .tmp 72], argTypes := #[86, 86, 86] }) (Step.extern 94 [.int .u64 (L.getD ((q).toNat * 2) 0), .int .u64 ch, .int .u64 s36] Try.f94 add64e (.tuple #[.int .u64 (((L.getD ((q).toNat * 2) 0) + ch + s36) % 18446744073709551616), .int .u64 (((L.getD ((q).toNat * 2) 0) + ch + s36) / 18446744073709551616)]) (by kernel_rfl) Try.func94 (by kernel_rfl) (by kernel_rfl) (by kernel_rfl) (by kernel_rfl) (fun w => run_add64e (by omega) (by omega) (by omega)) (by kernel_rfl) ?_)
      obtain ⟨s39, s40, he41, he42⟩ : ∃ s39 s40 : Int, s39 = ((L.getD ((q).toNat * 2) 0) + ch + s36) % 18446744073709551616 ∧ s40 = ((L.getD ((q).toNat * 2) 0) + ch + s36) / 18446744073709551616 := ⟨_, _, rfl, rfl⟩
      refine RunR.ev [4, 10, 11, 12, 13, 53, 54, 69, 71, 72, 73] [(4, pt b3), (10, pt b28), (11, pt b30), (12, .int .i64 q), (13, pt b34), (53, ag .u64 L), (54, .int .i64 q), (69, .int .u64 (L.getD ((q).toNat * 2) 0)), (71, .int .u64 ch), (72, .int .u64 s36), (73, .tuple #[.int .u64 (((L.getD ((q).toNat * 2) 0) + ch + s36) % 18446744073709551616), .int .u64 (((L.getD ((q).toNat * 2) 0) + ch + s36) / 18446744073709551616)])] ?_
      refine RunR.enveq [(4, pt b3), (10, pt b28), (11, pt b30), (12, .int .i64 q), (13, pt b34), (53, ag .u64 L), (54, .int .i64 q), (69, .int .u64 (L.getD ((q).toNat * 2) 0)), (71, .int .u64 ch), (72, .int .u64 s36), (73, .tuple #[.int .u64 s39, .int .u64 s40])] (by rw [he41, he42]) ?_
      refine RunR.sl hU [] 4 10 [4, 10, 11, 12, 13, 53, 54, 74, 76] [(4, pt b3), (10, pt b28), (11, pt b30), (12, .int .i64 q), (13, pt b34), (53, ag .u64 L), (54, .int .i64 q), (74, .int .u64 s39), (76, pt b34)] 4 ?_
      refine RunR.st none (.store 86 (.tmp 76) (.tmp 74)) (Step.store_blk hU 0 b34 0 124 [.int .u64 (L.getD ((q).toNat * 2) 0), .int .u64 s35] (.int .u64 s39) (by kernel_rfl) (by kernel_rfl) (by kernel_rfl) 1 rfl [.int .u64 s39] (by kernel_rfl) rfl (by kernel_rfl) (by simp) ?_)
      refine RunR.nx ?_
      refine RunR.sl hU [] 2 2 [4, 10, 11, 13, 53, 54, 77, 78] [(4, pt b3), (10, pt b28), (11, pt b30), (13, pt b34), (53, ag .u64 L), (54, .int .i64 q), (77, .int .i64 q), (78, .pointer (some ⟨b34, 1, none⟩))] 2 ?_
      refine RunR.st (some 79) (.load 86 (.tmp 78)) (Step.load_blk hU 0 b34 (1) 124 [.int .u64 s39, .int .u64 s35] (.int .u64 s35) (by kernel_rfl) (by kernel_rfl) (by kernel_rfl) (by kernel_rfl) ?_)
      have hm43 := and_le .u64 rfl s35 2251799813685247 (by decide) (by decide)
      refine RunR.sil hU [] 3 6 [4, 10, 11, 13, 53, 54, 80, 82] [(4, pt b3), (10, pt b28), (11, pt b30), (13, pt b34), (53, ag .u64 L), (54, .int .i64 q), (80, .int .u64 (bits2 .and .u64 s35 2251799813685247)), (82, .pointer (some ⟨b28, 0 + (q).toNat * 1, none⟩))] ((True) ∧ (True) ∧ (0 ≤ q ∧ q < ((5 : Nat) : Int)) ∧ True) rfl (by kernel_rfl) ⟨trivial, trivial, (by omega), trivial⟩ ?_
      have hl44 : (os.set ((q).toNat) (bits2 .and .u64 s35 2251799813685247)).length = os.length := List.length_set
      refine RunR.st none (.store 86 (.tmp 82) (.tmp 80)) (Step.store_seg hU 1 b28 (0 + (q).toNat * 1) 89 (nums .u64 os) (nums .u64 (os.set ((q).toNat) (bits2 .and .u64 s35 2251799813685247))) ([.int .u64 (bits2 .and .u64 s35 2251799813685247)]) (.int .u64 (bits2 .and .u64 s35 2251799813685247)) (by kernel_rfl) (by kernel_rfl) (by kernel_rfl) 1 (by kernel_rfl) (by kernel_rfl) (by rfl) (by kernel_rfl) ((Put.nth (i := (q).toNat) (by omega) rfl).at (by omega)) ?_)
      refine RunR.nn ?_
      refine RunC.region ?_
      refine RunR.sl hU [] 1 1 [4, 10, 11, 13, 53, 54, 83] [(4, pt b3), (10, pt b28), (11, pt b30), (13, pt b34), (53, ag .u64 L), (54, .int .i64 q), (83, pt b34)] 1 ?_
      refine RunR.st (some 84) (.load 86 (.tmp 83)) (Step.load_blk hU 1 b34 (0) 124 [.int .u64 s39, .int .u64 s35] (.int .u64 s39) (by kernel_rfl) (by kernel_rfl) (by kernel_rfl) (by kernel_rfl) ?_)
      refine RunR.sil hU [2] 2 4 [4, 10, 11, 13, 53, 54, 85, 86] [(4, pt b3), (10, pt b28), (11, pt b30), (13, pt b34), (53, ag .u64 L), (54, .int .i64 q), (85, .int .u64 (s39 / 2 ^ 51)), (86, .pointer (some ⟨b34, 1, none⟩))] ((0 ≤ (51 : Int)) ∧ (True) ∧ True) rfl (by kernel_rfl) ⟨(by omega), trivial, trivial⟩ ?_
      refine RunR.st (some 87) (.load 86 (.tmp 86)) (Step.load_blk hU 1 b34 (1) 124 [.int .u64 s39, .int .u64 s35] (.int .u64 s35) (by kernel_rfl) (by kernel_rfl) (by kernel_rfl) (by kernel_rfl) ?_)
      refine RunR.sil hU [5] 2 7 [4, 10, 11, 53, 54, 85, 88, 89] [(4, pt b3), (10, pt b28), (11, pt b30), (53, ag .u64 L), (54, .int .i64 q), (85, .int .u64 (s39 / 2 ^ 51)), (88, .int .u64 (s35 / 2 ^ 51)), (89, pt b34)] ((0 ≤ (51 : Int)) ∧ (True) ∧ True) rfl (by kernel_rfl) ⟨(by omega), trivial, trivial⟩ ?_
      refine RunR.st (some 90) (.load 86 (.tmp 89)) (Step.load_blk hU 1 b34 (0) 124 [.int .u64 s39, .int .u64 s35] (.int .u64 s39) (by kernel_rfl) (by kernel_rfl) (by kernel_rfl) (by kernel_rfl) ?_)
      refine RunR.sil hU [] 3 11 [4, 10, 11, 53, 54, 93] [(4, pt b3), (10, pt b28), (11, pt b30), (53, ag .u64 L), (54, .int .i64 q), (93, .agg #[.int .u64 (s39 / 2 ^ 51), .int .u64 (bits2 .or .u64 (s35 / 2 ^ 51) (IntKind.wrap .u64 (s39 * 2 ^ 13)))])] ((0 ≤ (13 : Int)) ∧ (True) ∧ (True) ∧ True) rfl (by kernel_rfl) ⟨(by omega), trivial, trivial, trivial⟩ ?_
      refine RunR.st none (.store 124 (.tmp 11) (.tmp 93)) (Step.store_blk hU 2 b30 0 124 [.int .u64 ch, .int .u64 cl] (.agg #[.int .u64 (s39 / 2 ^ 51), .int .u64 (bits2 .or .u64 (s35 / 2 ^ 51) (IntKind.wrap .u64 (s39 * 2 ^ 13)))]) (by kernel_rfl) (by kernel_rfl) (by kernel_rfl) 2 rfl [.int .u64 (s39 / 2 ^ 51), .int .u64 (bits2 .or .u64 (s35 / 2 ^ 51) (IntKind.wrap .u64 (s39 * 2 ^ 13)))] (by kernel_rfl) rfl (by kernel_rfl) (by simp) ?_)
      refine RunR.dn ?_
      refine kblock_n ?_
      refine kseq_n ?_
      refine RunC.region ?_
      refine RunR.sil hU [0] 2 2 [4, 10, 11, 53, 54] [(4, pt b3), (10, pt b28), (11, pt b30), (53, ag .u64 L), (54, .int .i64 (q + 1))] ((-9223372036854775808 ≤ (q + 1) ∧ (q + 1) < 9223372036854775808) ∧ (True) ∧ True) rfl (by kernel_rfl) ⟨(by omega), trivial, trivial⟩ ?_
      refine RunR.dn ?_
      refine kloop_n _ [4, 10, 11, 53, 54] [1, 0, 1, 1, 1, 1] [(4, pt b3), (10, pt b28), (11, pt b30), (53, ag .u64 L), (54, .int .i64 (q + 1))] [blk b28 89 (nums .u64 (os.set ((q).toNat) (bits2 .and .u64 s35 2251799813685247))), blk b30 124 [.int .u64 (s39 / 2 ^ 51), .int .u64 (bits2 .or .u64 (s35 / 2 ^ 51) (IntKind.wrap .u64 (s39 * 2 ^ 13)))], blk b5 125 (nums .u64 L), blk b3 89 (nums .u64 (List.replicate 5 (0 : Int))), blk b2 89 (nums .u64 ys), blk b1 89 (nums .u64 xs)] (by kernel_rfl) (by kernel_rfl) ?_ ⟨(q + 1), (os.set ((q).toNat) (bits2 .and .u64 s35 2251799813685247)), (s39 / 2 ^ 51), (bits2 .or .u64 (s35 / 2 ^ 51) (IntKind.wrap .u64 (s39 * 2 ^ 13))), (by omega), (by assumption), (by rw [show (q + 1).toNat = q.toNat + 1 by omega]; exact (mul_carry hE.lim hF.lim (by have := hS; rw [show 5 * i.toNat = 25 by omega] at this; exact this) hLi (by omega) ho hcc hch hcl (by assumption) (by assumption) (by assumption)).1), (by rw [show (q + 1).toNat = q.toNat + 1 by omega]; exact (mul_carry hE.lim hF.lim (by have := hS; rw [show 5 * i.toNat = 25 by omega] at this; exact this) hLi (by omega) ho hcc hch hcl (by assumption) (by assumption) (by assumption)).2.1), (by exact (mul_carry hE.lim hF.lim (by have := hS; rw [show 5 * i.toNat = 25 by omega] at this; exact this) hLi (by omega) ho hcc hch hcl (by assumption) (by assumption) (by assumption)).2.2.1), (by exact (mul_carry hE.lim hF.lim (by have := hS; rw [show 5 * i.toNat = 25 by omega] at this; exact this) hLi (by omega) ho hcc hch hcl (by assumption) (by assumption) (by assumption)).2.2.2), (by exact In.set hoi _ (fits_bits2 _ _ _ _)), (by rw [List.length_set]; exact hol), rfl, (by rfl), (by rfl)⟩
      show ((5 - (q + 1)).toNat : Nat) < ((5 - q).toNat : Nat)
      omega
    · skip
      refine RunC.exit ?_
      refine kseq_e ?_
      refine kloop_e ?_
      refine kblock_e ?_
      refine kseq_n ?_
      refine RunC.sr ?_
      refine RunR.sl hU [] 1 1 [4, 10, 96] [(4, pt b3), (10, pt b28), (96, .pointer (some ⟨b30, 1, none⟩))] 1 ?_
      refine RunR.st (some 97) (.load 86 (.tmp 96)) (Step.load_blk hU 1 b30 (1) 124 [.int .u64 ch, .int .u64 cl] (.int .u64 cl) (by kernel_rfl) (by kernel_rfl) (by kernel_rfl) (by kernel_rfl) ?_)
      refine RunR.st (some 98) (.call { callee := .value (.func 95), args := #[.tmp 97, .const (.int .u64 19)], argTypes := #[86, 86] }) (Step.cn 95 [.int .u64 cl, .int .u64 19] [] [blk b28 89 (nums .u64 os), blk b30 124 [.int .u64 ch, .int .u64 cl], blk b5 125 (nums .u64 L), blk b3 89 (nums .u64 (List.replicate 5 (0 : Int))), blk b2 89 (nums .u64 ys), blk b1 89 (nums .u64 xs)] (f_Mul64_spec cl 19 (by assumption) (by (refine ⟨?_, ?_⟩ <;> omega))) [] ?_)
      rintro _ _ ⟨rfl, rfl⟩
      refine RunR.sl hU [] 5 8 [4, 10, 15, 16] [(4, pt b3), (10, pt b28), (15, .int .u64 (cl * 19 / 18446744073709551616)), (16, .int .u64 (cl * 19 % 18446744073709551616))] 5 ?_
      refine RunR.nx ?_
      refine RunR.sil hU [] 3 3 [4, 10, 15, 16, 102, 104] [(4, pt b3), (10, pt b28), (15, .int .u64 (cl * 19 / 18446744073709551616)), (16, .int .u64 (cl * 19 % 18446744073709551616)), (102, .int .u64 (cl * 19 % 18446744073709551616)), (104, pt b28)] ((True) ∧ (True) ∧ (0 ≤ (0 : Int) ∧ (0 : Int) < ((5 : Nat) : Int)) ∧ True) rfl (by kernel_rfl) ⟨trivial, trivial, (by omega), trivial⟩ ?_
      refine RunR.st (some 105) (.load 86 (.tmp 104)) (Step.load_blk hU 0 b28 (0) 89 (nums .u64 os) (.int .u64 (os.getD 0 0)) (by kernel_rfl) (by kernel_rfl) (loadv_one (by kernel_rfl) (Seg.elem (i := 0) (show Seg _ 0 _ from Seg.all _) (by omega) (by omega))) (by kernel_rfl) ?_)
      have hb45 : 0 ≤ os.getD 0 0 ∧ os.getD 0 0 < 18446744073709551616 := hoi.at_ _
      refine RunR.st (some 106) (.call { callee := .value (.func 94), args := #[.tmp 102, .tmp 105, .const (.int .u64 0)], argTypes := #[86, 86, 86] }) (Step.extern 94 [.int .u64 (cl * 19 % 18446744073709551616), .int .u64 (os.getD 0 0), .int .u64 0] Try.f94 add64e (.tuple #[.int .u64 (((cl * 19 % 18446744073709551616) + (os.getD 0 0) + (0 : Int)) % 18446744073709551616), .int .u64 (((cl * 19 % 18446744073709551616) + (os.getD 0 0) + (0 : Int)) / 18446744073709551616)]) (by kernel_rfl) Try.func94 (by kernel_rfl) (by kernel_rfl) (by kernel_rfl) (by kernel_rfl) (fun w => run_add64e (by omega) (by omega) (by omega)) (by kernel_rfl) ?_)
      obtain ⟨s46, s47, he48, he49⟩ : ∃ s46 s47 : Int, s46 = ((cl * 19 % 18446744073709551616) + (os.getD 0 0) + (0 : Int)) % 18446744073709551616 ∧ s47 = ((cl * 19 % 18446744073709551616) + (os.getD 0 0) + (0 : Int)) / 18446744073709551616 := ⟨_, _, rfl, rfl⟩
      refine RunR.ev [4, 10, 15, 16, 102, 104, 105, 106] [(4, pt b3), (10, pt b28), (15, .int .u64 (cl * 19 / 18446744073709551616)), (16, .int .u64 (cl * 19 % 18446744073709551616)), (102, .int .u64 (cl * 19 % 18446744073709551616)), (104, pt b28), (105, .int .u64 (os.getD 0 0)), (106, .tuple #[.int .u64 (((cl * 19 % 18446744073709551616) + (os.getD 0 0) + (0 : Int)) % 18446744073709551616), .int .u64 (((cl * 19 % 18446744073709551616) + (os.getD 0 0) + (0 : Int)) / 18446744073709551616)])] ?_
      refine RunR.enveq [(4, pt b3), (10, pt b28), (15, .int .u64 (cl * 19 / 18446744073709551616)), (16, .int .u64 (cl * 19 % 18446744073709551616)), (102, .int .u64 (cl * 19 % 18446744073709551616)), (104, pt b28), (105, .int .u64 (os.getD 0 0)), (106, .tuple #[.int .u64 s46, .int .u64 s47])] (by rw [he48, he49]) ?_
      refine RunR.sl hU [] 5 10 [4, 10, 15, 16, 17] [(4, pt b3), (10, pt b28), (15, .int .u64 (cl * 19 / 18446744073709551616)), (16, .int .u64 s46), (17, .int .u64 s47)] 5 ?_
      refine RunR.nx ?_
      have hm50 := and_le .u64 rfl s46 2251799813685247 (by decide) (by decide)
      refine RunR.sil hU [] 4 4 [4, 10, 15, 16, 17, 110, 112] [(4, pt b3), (10, pt b28), (15, .int .u64 (cl * 19 / 18446744073709551616)), (16, .int .u64 s46), (17, .int .u64 s47), (110, .int .u64 (bits2 .and .u64 s46 2251799813685247)), (112, pt b28)] ((True) ∧ (True) ∧ (True) ∧ (0 ≤ (0 : Int) ∧ (0 : Int) < ((5 : Nat) : Int)) ∧ True) rfl (by kernel_rfl) ⟨trivial, trivial, trivial, (by omega), trivial⟩ ?_
      have hl51 : (os.set 0 (bits2 .and .u64 s46 2251799813685247)).length = os.length := List.length_set
      refine RunR.st none (.store 86 (.tmp 112) (.tmp 110)) (Step.store_seg hU 0 b28 (0) 89 (nums .u64 os) (nums .u64 (os.set 0 (bits2 .and .u64 s46 2251799813685247))) ([.int .u64 (bits2 .and .u64 s46 2251799813685247)]) (.int .u64 (bits2 .and .u64 s46 2251799813685247)) (by kernel_rfl) (by kernel_rfl) (by kernel_rfl) 1 (by kernel_rfl) (by kernel_rfl) (by rfl) (by kernel_rfl) (show Put _ 0 _ _ from Put.nth (i := 0) (by omega) rfl) ?_)
      refine RunR.nx ?_
      refine RunR.sil hU [] 2 2 [4, 10, 15, 16, 17, 114] [(4, pt b3), (10, pt b28), (15, .int .u64 (cl * 19 / 18446744073709551616)), (16, .int .u64 s46), (17, .int .u64 s47), (114, .pointer (some ⟨b28, 1, none⟩))] ((True) ∧ (0 ≤ (1 : Int) ∧ (1 : Int) < ((5 : Nat) : Int)) ∧ True) rfl (by kernel_rfl) ⟨trivial, (by omega), trivial⟩ ?_
      refine RunR.st (some 115) (.load 86 (.tmp 114)) (Step.load_blk hU 0 b28 (1) 89 (nums .u64 (os.set 0 (bits2 .and .u64 s46 2251799813685247))) (.int .u64 ((os.set 0 (bits2 .and .u64 s46 2251799813685247)).getD 1 0)) (by kernel_rfl) (by kernel_rfl) (loadv_one (by kernel_rfl) (Seg.elem (i := 1) (show Seg _ 0 _ from Seg.all _) (by omega) (by omega))) (by kernel_rfl) ?_)
      refine RunR.sil hU [4] 10 13 [4, 10, 123, 125] [(4, pt b3), (10, pt b28), (123, .int .u64 (IntKind.wrap .u64 (((os.set 0 (bits2 .and .u64 s46 2251799813685247)).getD 1 0) + (bits2 .or .u64 (s46 / 2 ^ 51) (IntKind.wrap .u64 ((IntKind.wrap .u64 ((cl * 19 / 18446744073709551616) + s47)) * 2 ^ 13)))))), (125, .pointer (some ⟨b28, 1, none⟩))] ((True) ∧ (0 ≤ (51 : Int)) ∧ (True) ∧ (True) ∧ (True) ∧ (0 ≤ (13 : Int)) ∧ (True) ∧ (True) ∧ (True) ∧ (0 ≤ (1 : Int) ∧ (1 : Int) < ((5 : Nat) : Int)) ∧ True) rfl (by kernel_rfl) ⟨trivial, (by omega), trivial, trivial, trivial, (by omega), trivial, trivial, trivial, (by omega), trivial⟩ ?_
      have hl52 : ((os.set 0 (bits2 .and .u64 s46 2251799813685247)).set 1 (IntKind.wrap .u64 (((os.set 0 (bits2 .and .u64 s46 2251799813685247)).getD 1 0) + (bits2 .or .u64 (s46 / 2 ^ 51) (IntKind.wrap .u64 ((IntKind.wrap .u64 ((cl * 19 / 18446744073709551616) + s47)) * 2 ^ 13)))))).length = (os.set 0 (bits2 .and .u64 s46 2251799813685247)).length := List.length_set
      refine RunR.st none (.store 86 (.tmp 125) (.tmp 123)) (Step.store_seg hU 0 b28 (1) 89 (nums .u64 (os.set 0 (bits2 .and .u64 s46 2251799813685247))) (nums .u64 ((os.set 0 (bits2 .and .u64 s46 2251799813685247)).set 1 (IntKind.wrap .u64 (((os.set 0 (bits2 .and .u64 s46 2251799813685247)).getD 1 0) + (bits2 .or .u64 (s46 / 2 ^ 51) (IntKind.wrap .u64 ((IntKind.wrap .u64 ((cl * 19 / 18446744073709551616) + s47)) * 2 ^ 13))))))) ([.int .u64 (IntKind.wrap .u64 (((os.set 0 (bits2 .and .u64 s46 2251799813685247)).getD 1 0) + (bits2 .or .u64 (s46 / 2 ^ 51) (IntKind.wrap .u64 ((IntKind.wrap .u64 ((cl * 19 / 18446744073709551616) + s47)) * 2 ^ 13)))))]) (.int .u64 (IntKind.wrap .u64 (((os.set 0 (bits2 .and .u64 s46 2251799813685247)).getD 1 0) + (bits2 .or .u64 (s46 / 2 ^ 51) (IntKind.wrap .u64 ((IntKind.wrap .u64 ((cl * 19 / 18446744073709551616) + s47)) * 2 ^ 13)))))) (by kernel_rfl) (by kernel_rfl) (by kernel_rfl) 1 (by kernel_rfl) (by kernel_rfl) (by rfl) (by kernel_rfl) (show Put _ 1 _ _ from Put.nth (i := 1) (by omega) rfl) ?_)
      refine RunR.nx ?_
      refine RunR.st (some 126) (.load 89 (.tmp 10)) (Step.load_blk hU 0 b28 (0) 89 (nums .u64 ((os.set 0 (bits2 .and .u64 s46 2251799813685247)).set 1 (IntKind.wrap .u64 (((os.set 0 (bits2 .and .u64 s46 2251799813685247)).getD 1 0) + (bits2 .or .u64 (s46 / 2 ^ 51) (IntKind.wrap .u64 ((IntKind.wrap .u64 ((cl * 19 / 18446744073709551616) + s47)) * 2 ^ 13))))))) (.agg (nums .u64 ((os.set 0 (bits2 .and .u64 s46 2251799813685247)).set 1 (IntKind.wrap .u64 (((os.set 0 (bits2 .and .u64 s46 2251799813685247)).getD 1 0) + (bits2 .or .u64 (s46 / 2 ^ 51) (IntKind.wrap .u64 ((IntKind.wrap .u64 ((cl * 19 / 18446744073709551616) + s47)) * 2 ^ 13))))))).toArray) (by kernel_rfl) (by kernel_rfl) (loadv_seg (n := 5) (by kernel_rfl) (by kernel_rfl) (Seg.all _) (by simp only [List.length_append, nums_length, List.length_cons, List.length_nil] <;> omega)) (by kernel_rfl) ?_)
      refine RunR.st (some 127) (.call { callee := .value (.func 96), args := #[.tmp 126], argTypes := #[89] }) (Step.cn 96 [.agg (nums .u64 ((os.set 0 (bits2 .and .u64 s46 2251799813685247)).set 1 (IntKind.wrap .u64 (((os.set 0 (bits2 .and .u64 s46 2251799813685247)).getD 1 0) + (bits2 .or .u64 (s46 / 2 ^ 51) (IntKind.wrap .u64 ((IntKind.wrap .u64 ((cl * 19 / 18446744073709551616) + s47)) * 2 ^ 13))))))).toArray] [] [blk b28 89 (nums .u64 ((os.set 0 (bits2 .and .u64 s46 2251799813685247)).set 1 (IntKind.wrap .u64 (((os.set 0 (bits2 .and .u64 s46 2251799813685247)).getD 1 0) + (bits2 .or .u64 (s46 / 2 ^ 51) (IntKind.wrap .u64 ((IntKind.wrap .u64 ((cl * 19 / 18446744073709551616) + s47)) * 2 ^ 13))))))), blk b30 124 [.int .u64 ch, .int .u64 cl], blk b5 125 (nums .u64 L), blk b3 89 (nums .u64 (List.replicate 5 (0 : Int))), blk b2 89 (nums .u64 ys), blk b1 89 (nums .u64 xs)] (f_carried_spec ((os.set 0 (bits2 .and .u64 s46 2251799813685247)).set 1 (IntKind.wrap .u64 (((os.set 0 (bits2 .and .u64 s46 2251799813685247)).getD 1 0) + (bits2 .or .u64 (s46 / 2 ^ 51) (IntKind.wrap .u64 ((IntKind.wrap .u64 ((cl * 19 / 18446744073709551616) + s47)) * 2 ^ 13)))))) (by exact (mul_end hE hF (by rw [ho, show q = 5 by omega] <;> rfl) (by rw [hcc, show q = 5 by omega] <;> rfl) hch hcl (by assumption) (by assumption)).1) (by omega)) [] ?_)
      rintro _ _ ⟨zs53, rfl, rfl, hp54, hp55⟩
      refine RunR.st none (.store 89 (.tmp 4) (.tmp 127)) (Step.ss hU 3 b3 (0) 89 (nums .u64 (List.replicate 5 (0 : Int))) (nums .u64 zs53) (nums .u64 zs53) (ag .u64 zs53) 5 (by (simp only [List.length_append, nums_length, List.length_cons, List.length_nil, List.length_replicate]; omega)) (show Put _ 0 _ _ from Put.all (by simp only [List.length_append, nums_length, List.length_cons, List.length_nil, List.length_replicate] <;> omega)) ?_)
      refine RunR.nn ?_
      refine RunC.ret ?_
      refine kret_r [ag .u64 zs53] [] [] ⟨⟨0, b3, 0, 89, nums .u64 zs53, rfl, rfl, (loadv_seg (U := U) (n := 5) (by kernel_rfl) (by kernel_rfl) (Seg.all _) (by simp only [List.length_append, nums_length, List.length_cons, List.length_nil] <;> omega))⟩, trivial⟩ (by kernel_rfl) rfl ⟨zs53, rfl, rfl, (by simp only [hp54]; exact El.carr (b := 9223372036854775808) (mul_end hE hF (by rw [ho, show q = 5 by omega] <;> rfl) (by rw [hcc, show q = 5 by omega] <;> rfl) hch hcl (by assumption) (by assumption)).1 (Int.le_refl _) (mul_end hE hF (by rw [ho, show q = 5 by omega] <;> rfl) (by rw [hcc, show q = 5 by omega] <;> rfl) hch hcl (by assumption) (by assumption)).2), (by assumption)⟩
end Go.Proofs.Ytaaplakahkgclaa.X6
