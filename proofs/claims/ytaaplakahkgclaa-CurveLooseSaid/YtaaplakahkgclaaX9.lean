/- What these functions compute: a contract for each, walked through its code. -/
import Derived.Test.YtaaplakahkgclaaKPure
import Derived.Test.YtaaplakahkgclaaProg
import Derived.Test.YtaaplakahkgclaaX1
import Derived.Test.YtaaplakahkgclaaX2
import Derived.Test.YtaaplakahkgclaaX3
import Derived.Test.YtaaplakahkgclaaX4
import Derived.Test.YtaaplakahkgclaaX5
import Derived.Test.YtaaplakahkgclaaX6
import Derived.Test.YtaaplakahkgclaaX7
import Derived.Test.YtaaplakahkgclaaX8
namespace Go.Proofs.Ytaaplakahkgclaa.X9
open Go Go.Proofs.Ytaaplakahkgclaa.SL Go.Proofs.Ytaaplakahkgclaa.SL.W Go.Proofs.Ytaaplakahkgclaa.SL.F Go.Proofs.Ytaaplakahkgclaa.SL.N Go.Proofs.Ytaaplakahkgclaa.SL.E Go.Proofs.Ytaaplakahkgclaa.SL.K Go.Proofs.Ytaaplakahkgclaa.X1 Go.Proofs.Ytaaplakahkgclaa.X2 Go.Proofs.Ytaaplakahkgclaa.X3 Go.Proofs.Ytaaplakahkgclaa.X4 Go.Proofs.Ytaaplakahkgclaa.X5 Go.Proofs.Ytaaplakahkgclaa.X6 Go.Proofs.Ytaaplakahkgclaa.X7 Go.Proofs.Ytaaplakahkgclaa.X8
set_option linter.unusedVariables false
set_option linter.unusedSimpArgs false
set_option maxRecDepth 100000
set_option maxHeartbeats 40000000
def U : Tab where
  und := [(3, .int .i64), (86, .int .u64), (87, .array 5 86), (88, .struct #[{ name := "n", type := 87, offset := 0, embedded := false, tag := "", pkgPath := "orlop/field", byteOffset := 0 }]), (89, .struct #[{ name := "n", type := 87, offset := 0, embedded := false, tag := "", pkgPath := "orlop/field", byteOffset := 0 }]), (96, .int .u32)]
  fld := [((88, 0), (0, 87)), ((89, 0), (0, 87))]
  sz := [(3, 1), (86, 1), (87, 5), (88, 5), (89, 5), (96, 1)]
  ti := [(3, (1, 8, .int .i64 0)), (86, (1, 8, .int .u64 0)), (87, (5, 40, .agg #[.int .u64 0, .int .u64 0, .int .u64 0, .int .u64 0, .int .u64 0])), (88, (5, 40, .agg #[.int .u64 0, .int .u64 0, .int .u64 0, .int .u64 0, .int .u64 0])), (89, (5, 40, .agg #[.int .u64 0, .int .u64 0, .int .u64 0, .int .u64 0, .int .u64 0])), (96, (1, 4, .int .u32 0))]
  bld := [(88, [(0, 5)]), (89, [(0, 5)])]

theorem hU : U.OK Try.prog where
  und := by
    intro p hp
    simp only [U, List.mem_cons, List.not_mem_nil, or_false] at hp
    rcases hp with rfl | rfl | rfl | rfl | rfl | rfl
    · exact Try.underlying3
    · exact Try.underlying86
    · exact Try.underlying87
    · exact Try.underlying88
    · exact Try.underlying89
    · exact Try.underlying96
  fld := by
    intro p hp
    simp only [U, List.mem_cons, List.not_mem_nil, or_false] at hp
    rcases hp with rfl | rfl
    · exact ⟨_, _, Try.underlying88, rfl, rfl, rfl, Try.prog.types[87]!, by kernel_rfl, by decide +kernel⟩
    · exact ⟨_, _, Try.underlying89, rfl, rfl, rfl, Try.prog.types[87]!, by kernel_rfl, by decide +kernel⟩
  sz := by
    intro p hp
    simp only [U, List.mem_cons, List.not_mem_nil, or_false] at hp
    rcases hp with rfl | rfl | rfl | rfl | rfl | rfl
    · exact ⟨Try.prog.types[3]!, by kernel_rfl, by kernel_rfl⟩
    · exact ⟨Try.prog.types[86]!, by kernel_rfl, by kernel_rfl⟩
    · exact ⟨Try.prog.types[87]!, by kernel_rfl, by kernel_rfl⟩
    · exact ⟨Try.prog.types[88]!, by kernel_rfl, by kernel_rfl⟩
    · exact ⟨Try.prog.types[89]!, by kernel_rfl, by kernel_rfl⟩
    · exact ⟨Try.prog.types[96]!, by kernel_rfl, by kernel_rfl⟩
  ti := by
    intro p hp
    simp only [U, List.mem_cons, List.not_mem_nil, or_false] at hp
    rcases hp with rfl | rfl | rfl | rfl | rfl | rfl
    · exact ⟨Try.prog.types[3]!, by kernel_rfl, by kernel_rfl, by kernel_rfl, by kernel_rfl⟩
    · exact ⟨Try.prog.types[86]!, by kernel_rfl, by kernel_rfl, by kernel_rfl, by kernel_rfl⟩
    · exact ⟨Try.prog.types[87]!, by kernel_rfl, by kernel_rfl, by kernel_rfl, by kernel_rfl⟩
    · exact ⟨Try.prog.types[88]!, by kernel_rfl, by kernel_rfl, by kernel_rfl, by kernel_rfl⟩
    · exact ⟨Try.prog.types[89]!, by kernel_rfl, by kernel_rfl, by kernel_rfl, by kernel_rfl⟩
    · exact ⟨Try.prog.types[96]!, by kernel_rfl, by kernel_rfl, by kernel_rfl, by kernel_rfl⟩
  bld := by
    intro p hp
    simp only [U, List.mem_cons, List.not_mem_nil, or_false] at hp
    rcases hp with rfl | rfl
    · exact ⟨_, Try.underlying88, by kernel_rfl⟩
    · exact ⟨_, Try.underlying89, by kernel_rfl⟩
  mixed := by kernel_rfl

theorem f_Square_spec (xs : List Int) (v : Int) (hE : El xs v) (hl : xs.length = 5) :
    CallsS Try.prog 91 [.agg (nums .u64 xs).toArray] [] (fun r D => ∃ (zs : List Int), r = .agg (nums .u64 zs).toArray ∧ D = [] ∧ (El zs ((v * v) % P)) ∧ (zs.length = 5)) := by
  refine CallsS.enter hU Try.f91 _ [.cell 2 89] 6 Try.func91 rfl (by decide) rfl rfl (by kernel_rfl) fun w0 W => ?_
  refine RunC.seq ?_
  refine RunC.region ?_
  refine RunR.step (dst := some 1) (op := .box 89 (.tmp 0)) (by kernel_rfl) (Step.box (.agg (nums .u64 xs).toArray) (by kernel_rfl) (by kernel_rfl) (fun b1 => ?_))
  refine RunR.step (dst := some 2) (op := .alloc 89) (by kernel_rfl) (Step.alloc hU 5 40 (.agg #[.int .u64 0, .int .u64 0, .int .u64 0, .int .u64 0, .int .u64 0]) rfl (by kernel_rfl) (fun b2 => ?_))
  have hl3 : (List.replicate 5 (0 : Int)).length = 5 := List.length_replicate
  refine RunR.done (by kernel_rfl) ?_
  refine kseq_n ?_
  refine RunC.seq ?_
  refine RunC.region ?_
  refine RunR.step (dst := some 3) (op := .load 89 (.tmp 1)) (by kernel_rfl) (Step.load_blk hU 1 b1 (0) 89 (nums .u64 xs) (.agg (nums .u64 xs).toArray) (by kernel_rfl) (by kernel_rfl) (loadv_seg (n := 5) (by kernel_rfl) (by kernel_rfl) (Seg.all _) (by simp only [List.length_append, nums_length, List.length_cons, List.length_nil] <;> omega)) (by kernel_rfl) ?_)
  refine RunR.step (dst := some 4) (op := .load 89 (.tmp 1)) (by kernel_rfl) (Step.load_blk hU 1 b1 (0) 89 (nums .u64 xs) (.agg (nums .u64 xs).toArray) (by kernel_rfl) (by kernel_rfl) (loadv_seg (n := 5) (by kernel_rfl) (by kernel_rfl) (Seg.all _) (by simp only [List.length_append, nums_length, List.length_cons, List.length_nil] <;> omega)) (by kernel_rfl) ?_)
  refine RunR.step (dst := some 5) (op := .call { callee := .value (.func 75), args := #[.tmp 3, .tmp 4], argTypes := #[89, 89] }) (by kernel_rfl) (Step.call 75 [.agg (nums .u64 xs).toArray, .agg (nums .u64 xs).toArray] (by kernel_rfl) (by kernel_rfl) [] [] [blk b2 89 (nums .u64 (List.replicate 5 (0 : Int))), blk b1 89 (nums .u64 xs)] (f_Mul_spec xs v xs v (by first | assumption | omega | (simp only [List.length_append, List.length_cons, List.length_nil, List.length_set, List.length_replicate, List.length_take, List.length_drop]; omega) | (simp only [fits] at *; omega) | (simp only [List.length_append, List.length_cons, List.length_nil, List.length_set, List.length_replicate, List.length_take, List.length_drop] at *; omega) | (simp; done) | decide) (by first | rfl | assumption | omega | (simp only [List.length_append, List.length_cons, List.length_nil, List.length_set, List.length_replicate, List.length_take, List.length_drop]; omega) | (simp; done)) (by first | assumption | omega | (simp only [List.length_append, List.length_cons, List.length_nil, List.length_set, List.length_replicate, List.length_take, List.length_drop]; omega) | (simp only [fits] at *; omega) | (simp only [List.length_append, List.length_cons, List.length_nil, List.length_set, List.length_replicate, List.length_take, List.length_drop] at *; omega) | (simp; done) | decide) (by first | rfl | assumption | omega | (simp only [List.length_append, List.length_cons, List.length_nil, List.length_set, List.length_replicate, List.length_take, List.length_drop]; omega) | (simp; done))) [] (by kernel_rfl) (Lend.nil _) ?_)
  rintro _ _ ⟨zs4, rfl, rfl, hp5, hp6⟩
  refine RunR.step (dst := none) (op := .store 89 (.tmp 2) (.tmp 5)) (by kernel_rfl) (Step.store_seg hU 0 b2 (0) 89 (nums .u64 (List.replicate 5 (0 : Int))) (nums .u64 zs4) (nums .u64 zs4) (.agg (nums .u64 zs4).toArray) (by kernel_rfl) (by kernel_rfl) (by kernel_rfl) 5 (by kernel_rfl) (by kernel_rfl) (by first | rfl | (simp only [List.length_append, nums_length, List.length_cons, List.length_nil, List.length_replicate]; omega) | (simp [nums_length, *])) (by simp only [List.all_append, all_one_nums, Bool.true_and, Bool.and_true] <;> rfl) (show Put _ 0 _ _ from Put.all (by simp only [List.length_append, nums_length, List.length_cons, List.length_nil, List.length_replicate] <;> omega)) ?_)
  refine RunR.done (by kernel_rfl) ?_
  refine kseq_n ?_
  refine RunC.ret ?_
  refine kret_r [.agg (nums .u64 zs4).toArray] [] [] ⟨⟨0, b2, 0, 89, nums .u64 zs4, rfl, rfl, (loadv_seg (U := U) (n := 5) (by kernel_rfl) (by kernel_rfl) (Seg.all _) (by simp only [List.length_append, nums_length, List.length_cons, List.length_nil] <;> omega))⟩, trivial⟩ (by kernel_rfl) rfl ⟨zs4, rfl, rfl, (by first | assumption | omega | (simp only [List.length_append, List.length_cons, List.length_nil, List.length_set, List.length_replicate, List.length_take, List.length_drop]; omega) | (simp only [fits] at *; omega) | (simp only [List.length_append, List.length_cons, List.length_nil, List.length_set, List.length_replicate, List.length_take, List.length_drop] at *; omega) | (simp; done) | decide), (by first | rfl | assumption | omega | (simp only [List.length_append, List.length_cons, List.length_nil, List.length_set, List.length_replicate, List.length_take, List.length_drop]; omega) | (simp; done))⟩

theorem f_Times_spec (xs : List Int) (v : Int) (n : Int) (hE : El xs v) (hl : xs.length = 5) (hn : fits .u32 n) :
    CallsS Try.prog 92 [.agg (nums .u64 xs).toArray, .int .u32 n] [] (fun r D => ∃ (zs : List Int), r = .agg (nums .u64 zs).toArray ∧ D = [] ∧ (El zs ((v * n) % P)) ∧ (zs.length = 5)) := by
  refine CallsS.enter hU Try.f92 _ [.cell 4 89] 11 Try.func92 rfl (by decide) rfl rfl (by kernel_rfl) fun w0 W => ?_
  have hn2 := hn; simp only [fits] at hn2
  refine RunC.seq ?_
  refine RunC.region ?_
  refine RunR.step (dst := some 2) (op := .box 89 (.tmp 0)) (by kernel_rfl) (Step.box (.agg (nums .u64 xs).toArray) (by kernel_rfl) (by kernel_rfl) (fun b1 => ?_))
  refine RunR.step (dst := some 4) (op := .alloc 89) (by kernel_rfl) (Step.alloc hU 5 40 (.agg #[.int .u64 0, .int .u64 0, .int .u64 0, .int .u64 0, .int .u64 0]) rfl (by kernel_rfl) (fun b2 => ?_))
  have hl3 : (List.replicate 5 (0 : Int)).length = 5 := List.length_replicate
  refine RunR.done (by kernel_rfl) ?_
  refine kseq_n ?_
  refine RunC.seq ?_
  refine RunC.region ?_
  refine RunR.step (dst := some 5) (op := .load 89 (.tmp 2)) (by kernel_rfl) (Step.load_blk hU 1 b1 (0) 89 (nums .u64 xs) (.agg (nums .u64 xs).toArray) (by kernel_rfl) (by kernel_rfl) (loadv_seg (n := 5) (by kernel_rfl) (by kernel_rfl) (Seg.all _) (by simp only [List.length_append, nums_length, List.length_cons, List.length_nil] <;> omega)) (by kernel_rfl) ?_)
  refine RunR.sil hU [2] 4 5 [4, 5, 9] [(4, .pointer (some ⟨b2, 0, none⟩)), (5, .agg (nums .u64 xs).toArray), (9, .agg (nums .u64 ([n, 0, 0, 0, 0] : List Int)).toArray)] ((True) ∧ (0 ≤ n ∧ n < 18446744073709551616) ∧ (True) ∧ (True) ∧ True) rfl (by kernel_rfl) ⟨trivial, (by omega), trivial, trivial, trivial⟩ ?_
  refine RunR.step (dst := some 10) (op := .call { callee := .value (.func 75), args := #[.tmp 5, .tmp 9], argTypes := #[89, 89] }) (by kernel_rfl) (Step.call 75 [.agg (nums .u64 xs).toArray, .agg (nums .u64 ([n, 0, 0, 0, 0] : List Int)).toArray] (by kernel_rfl) (by kernel_rfl) [] [] [blk b2 89 (nums .u64 (List.replicate 5 (0 : Int))), blk b1 89 (nums .u64 xs)] (f_Mul_spec xs v ([n, 0, 0, 0, 0] : List Int) n (by first | assumption | omega | (simp only [List.length_append, List.length_cons, List.length_nil, List.length_set, List.length_replicate, List.length_take, List.length_drop]; omega) | (simp only [fits] at *; omega) | (simp only [List.length_append, List.length_cons, List.length_nil, List.length_set, List.length_replicate, List.length_take, List.length_drop] at *; omega) | (simp; done) | decide) (by first | rfl | assumption | omega | (simp only [List.length_append, List.length_cons, List.length_nil, List.length_set, List.length_replicate, List.length_take, List.length_drop]; omega) | (simp; done)) (by exact small_el hn) (by first | rfl | assumption | omega | (simp only [List.length_append, List.length_cons, List.length_nil, List.length_set, List.length_replicate, List.length_take, List.length_drop]; omega) | (simp; done))) [] (by kernel_rfl) (Lend.nil _) ?_)
  rintro _ _ ⟨zs4, rfl, rfl, hp5, hp6⟩
  refine RunR.step (dst := none) (op := .store 89 (.tmp 4) (.tmp 10)) (by kernel_rfl) (Step.store_seg hU 0 b2 (0) 89 (nums .u64 (List.replicate 5 (0 : Int))) (nums .u64 zs4) (nums .u64 zs4) (.agg (nums .u64 zs4).toArray) (by kernel_rfl) (by kernel_rfl) (by kernel_rfl) 5 (by kernel_rfl) (by kernel_rfl) (by first | rfl | (simp only [List.length_append, nums_length, List.length_cons, List.length_nil, List.length_replicate]; omega) | (simp [nums_length, *])) (by simp only [List.all_append, all_one_nums, Bool.true_and, Bool.and_true] <;> rfl) (show Put _ 0 _ _ from Put.all (by simp only [List.length_append, nums_length, List.length_cons, List.length_nil, List.length_replicate] <;> omega)) ?_)
  refine RunR.done (by kernel_rfl) ?_
  refine kseq_n ?_
  refine RunC.ret ?_
  refine kret_r [.agg (nums .u64 zs4).toArray] [] [] ⟨⟨0, b2, 0, 89, nums .u64 zs4, rfl, rfl, (loadv_seg (U := U) (n := 5) (by kernel_rfl) (by kernel_rfl) (Seg.all _) (by simp only [List.length_append, nums_length, List.length_cons, List.length_nil] <;> omega))⟩, trivial⟩ (by kernel_rfl) rfl ⟨zs4, rfl, rfl, (by first | assumption | omega | (simp only [List.length_append, List.length_cons, List.length_nil, List.length_set, List.length_replicate, List.length_take, List.length_drop]; omega) | (simp only [fits] at *; omega) | (simp only [List.length_append, List.length_cons, List.length_nil, List.length_set, List.length_replicate, List.length_take, List.length_drop] at *; omega) | (simp; done) | decide), (by first | rfl | assumption | omega | (simp only [List.length_append, List.length_cons, List.length_nil, List.length_set, List.length_replicate, List.length_take, List.length_drop]; omega) | (simp; done))⟩

theorem f_squares_spec (xs : List Int) (v : Int) (n : Int) (hE : El xs v) (hl : xs.length = 5) (hn : 0 ≤ n) (hn2 : n ≤ 1000) :
    CallsS Try.prog 97 [.agg (nums .u64 xs).toArray, .int .i64 n] [] (fun r D => ∃ (zs : List Int), r = .agg (nums .u64 zs).toArray ∧ D = [] ∧ (El zs (pw v (2 ^ n.toNat))) ∧ (zs.length = 5)) := by
  refine CallsS.enter hU Try.f97 _ [.cell 4 89] 12 Try.func97 rfl (by decide) rfl rfl (by kernel_rfl) fun w0 W => ?_
  refine RunC.seq ?_
  refine RunC.region ?_
  refine RunR.step (dst := some 2) (op := .box 89 (.tmp 0)) (by kernel_rfl) (Step.box (.agg (nums .u64 xs).toArray) (by kernel_rfl) (by kernel_rfl) (fun b1 => ?_))
  refine RunR.step (dst := some 4) (op := .alloc 89) (by kernel_rfl) (Step.alloc hU 5 40 (.agg #[.int .u64 0, .int .u64 0, .int .u64 0, .int .u64 0, .int .u64 0]) rfl (by kernel_rfl) (fun b2 => ?_))
  have hl3 : (List.replicate 5 (0 : Int)).length = 5 := List.length_replicate
  refine RunR.done (by kernel_rfl) ?_
  refine kseq_n ?_
  refine RunC.seq ?_
  refine RunC.seq ?_
  refine RunC.region ?_
  refine RunR.sil hU [] 2 2 [2, 4, 5, 6] [(2, .pointer (some ⟨b1, 0, none⟩)), (4, .pointer (some ⟨b2, 0, none⟩)), (5, .int .i64 n), (6, .int .i64 0)] ((True) ∧ (True) ∧ True) rfl (by kernel_rfl) ⟨trivial, trivial, trivial⟩ ?_
  refine RunR.done (by kernel_rfl) ?_
  refine kseq_n ?_
  refine RunC.block ?_
  refine RunC.env [2, 4, 5, 6] [(2, .pointer (some ⟨b1, 0, none⟩)), (4, .pointer (some ⟨b2, 0, none⟩)), (5, .int .i64 n), (6, .int .i64 0)] (by kernel_rfl) ?_
  refine RunC.only [1, 0] [blk b1 89 (nums .u64 xs), blk b2 89 (nums .u64 (List.replicate 5 (0 : Int)))] (by kernel_rfl) ?_
  refine RunC.loop (σ := Nat) (fun n_ t_ D_ => ∃ (i : Int) (os : List Int), (0 ≤ i) ∧ (i ≤ n) ∧ (El os (pw v (2 ^ i.toNat))) ∧ (os.length = 5) ∧ n_ = ((n - i).toNat : Nat) ∧ t_ = [(2, .pointer (some ⟨b1, 0, none⟩)), (4, .pointer (some ⟨b2, 0, none⟩)), (5, .int .i64 n), (6, .int .i64 i)] ∧ D_ = [blk b1 89 (nums .u64 os), blk b2 89 (nums .u64 (List.replicate 5 (0 : Int)))]) id _ ⟨0, xs, (by first | assumption | omega | (simp only [List.length_append, List.length_cons, List.length_nil, List.length_set, List.length_replicate, List.length_take, List.length_drop]; omega) | (simp only [fits] at *; omega) | (simp only [List.length_append, List.length_cons, List.length_nil, List.length_set, List.length_replicate, List.length_take, List.length_drop] at *; omega) | (simp; done) | decide), (by first | assumption | omega | (simp only [List.length_append, List.length_cons, List.length_nil, List.length_set, List.length_replicate, List.length_take, List.length_drop]; omega) | (simp only [fits] at *; omega) | (simp only [List.length_append, List.length_cons, List.length_nil, List.length_set, List.length_replicate, List.length_take, List.length_drop] at *; omega) | (simp; done) | decide), (by exact el_pw1 hE), (by first | rfl | assumption | omega | (simp only [List.length_append, List.length_cons, List.length_nil, List.length_set, List.length_replicate, List.length_take, List.length_drop]; omega) | (simp; done)), rfl, rfl, rfl⟩ ?_
  rintro n_ _ _ ⟨i, os, hi, hin, hO, hol, rfl, rfl, rfl⟩
  refine RunC.seq ?_
  refine RunC.region ?_
  refine RunR.sil hU [] 1 1 [2, 4, 5, 6, 7] [(2, .pointer (some ⟨b1, 0, none⟩)), (4, .pointer (some ⟨b2, 0, none⟩)), (5, .int .i64 n), (6, .int .i64 i), (7, .bool (decide (i < n)))] ((True) ∧ True) rfl (by kernel_rfl) ⟨trivial, trivial⟩ ?_
  refine RunR.done (by kernel_rfl) ?_
  refine kseq_n ?_
  refine RunC.seq ?_
  refine RunC.condp (i < n) (by kernel_rfl) (fun h4 => ?_) (fun h4 => ?_)
  · skip
    refine RunC.skip ?_
    refine kseq_n ?_
    refine RunC.seq ?_
    refine RunC.block ?_
    refine RunC.region ?_
    refine RunR.step (dst := some 8) (op := .load 89 (.tmp 2)) (by kernel_rfl) (Step.load_blk hU 0 b1 (0) 89 (nums .u64 os) (.agg (nums .u64 os).toArray) (by kernel_rfl) (by kernel_rfl) (loadv_seg (n := 5) (by kernel_rfl) (by kernel_rfl) (Seg.all _) (by simp only [List.length_append, nums_length, List.length_cons, List.length_nil] <;> omega)) (by kernel_rfl) ?_)
    refine RunR.step (dst := some 9) (op := .call { callee := .value (.func 91), args := #[.tmp 8], argTypes := #[89] }) (by kernel_rfl) (Step.call 91 [.agg (nums .u64 os).toArray] (by kernel_rfl) (by kernel_rfl) [] [] [blk b1 89 (nums .u64 os), blk b2 89 (nums .u64 (List.replicate 5 (0 : Int)))] (f_Square_spec os (pw v (2 ^ i.toNat)) (by first | assumption | omega | (simp only [List.length_append, List.length_cons, List.length_nil, List.length_set, List.length_replicate, List.length_take, List.length_drop]; omega) | (simp only [fits] at *; omega) | (simp only [List.length_append, List.length_cons, List.length_nil, List.length_set, List.length_replicate, List.length_take, List.length_drop] at *; omega) | (simp; done) | decide) (by first | rfl | assumption | omega | (simp only [List.length_append, List.length_cons, List.length_nil, List.length_set, List.length_replicate, List.length_take, List.length_drop]; omega) | (simp; done))) [] (by kernel_rfl) (Lend.nil _) ?_)
    rintro _ _ ⟨zs5, rfl, rfl, hp6, hp7⟩
    refine RunR.step (dst := none) (op := .store 89 (.tmp 2) (.tmp 9)) (by kernel_rfl) (Step.store_seg hU 0 b1 (0) 89 (nums .u64 os) (nums .u64 zs5) (nums .u64 zs5) (.agg (nums .u64 zs5).toArray) (by kernel_rfl) (by kernel_rfl) (by kernel_rfl) 5 (by kernel_rfl) (by kernel_rfl) (by first | rfl | (simp only [List.length_append, nums_length, List.length_cons, List.length_nil, List.length_replicate]; omega) | (simp [nums_length, *])) (by simp only [List.all_append, all_one_nums, Bool.true_and, Bool.and_true] <;> rfl) (show Put _ 0 _ _ from Put.all (by simp only [List.length_append, nums_length, List.length_cons, List.length_nil, List.length_replicate] <;> omega)) ?_)
    refine RunR.done (by kernel_rfl) ?_
    refine kblock_n ?_
    refine kseq_n ?_
    refine RunC.region ?_
    refine RunR.sil hU [0] 2 2 [2, 4, 5, 6] [(2, .pointer (some ⟨b1, 0, none⟩)), (4, .pointer (some ⟨b2, 0, none⟩)), (5, .int .i64 n), (6, .int .i64 (i + 1))] ((-9223372036854775808 ≤ (i + 1) ∧ (i + 1) < 9223372036854775808) ∧ (True) ∧ True) rfl (by kernel_rfl) ⟨(by omega), trivial, trivial⟩ ?_
    refine RunR.done (by kernel_rfl) ?_
    refine kloop_n _ [2, 4, 5, 6] [0, 0] [(2, .pointer (some ⟨b1, 0, none⟩)), (4, .pointer (some ⟨b2, 0, none⟩)), (5, .int .i64 n), (6, .int .i64 (i + 1))] [blk b1 89 (nums .u64 zs5), blk b2 89 (nums .u64 (List.replicate 5 (0 : Int)))] (by kernel_rfl) (by kernel_rfl) ?_ ⟨(i + 1), zs5, (by first | assumption | omega | (simp only [List.length_append, List.length_cons, List.length_nil, List.length_set, List.length_replicate, List.length_take, List.length_drop]; omega) | (simp only [fits] at *; omega) | (simp only [List.length_append, List.length_cons, List.length_nil, List.length_set, List.length_replicate, List.length_take, List.length_drop] at *; omega) | (simp; done) | decide), (by first | assumption | omega | (simp only [List.length_append, List.length_cons, List.length_nil, List.length_set, List.length_replicate, List.length_take, List.length_drop]; omega) | (simp only [fits] at *; omega) | (simp only [List.length_append, List.length_cons, List.length_nil, List.length_set, List.length_replicate, List.length_take, List.length_drop] at *; omega) | (simp; done) | decide), (by refine el_cast (by assumption) ?_; rw [show (i + 1).toNat = i.toNat + 1 by omega, pw_mul, Nat.pow_succ, Nat.mul_two]), (by first | rfl | assumption | omega | (simp only [List.length_append, List.length_cons, List.length_nil, List.length_set, List.length_replicate, List.length_take, List.length_drop]; omega) | (simp; done)), rfl, (by first | rfl | simp only [List.length_set]), (by first | rfl | simp only [List.length_set])⟩
    show ((n - (i + 1)).toNat : Nat) < ((n - i).toNat : Nat)
    omega
  · skip
    refine RunC.exit ?_
    refine kseq_e ?_
    refine kloop_e ?_
    refine kblock_e ?_
    refine kseq_n ?_
    refine RunC.seq ?_
    refine RunC.region ?_
    refine RunR.step (dst := some 11) (op := .load 89 (.tmp 2)) (by kernel_rfl) (Step.load_blk hU 0 b1 (0) 89 (nums .u64 os) (.agg (nums .u64 os).toArray) (by kernel_rfl) (by kernel_rfl) (loadv_seg (n := 5) (by kernel_rfl) (by kernel_rfl) (Seg.all _) (by simp only [List.length_append, nums_length, List.length_cons, List.length_nil] <;> omega)) (by kernel_rfl) ?_)
    refine RunR.step (dst := none) (op := .store 89 (.tmp 4) (.tmp 11)) (by kernel_rfl) (Step.store_seg hU 1 b2 (0) 89 (nums .u64 (List.replicate 5 (0 : Int))) (nums .u64 os) (nums .u64 os) (.agg (nums .u64 os).toArray) (by kernel_rfl) (by kernel_rfl) (by kernel_rfl) 5 (by kernel_rfl) (by kernel_rfl) (by first | rfl | (simp only [List.length_append, nums_length, List.length_cons, List.length_nil, List.length_replicate]; omega) | (simp [nums_length, *])) (by simp only [List.all_append, all_one_nums, Bool.true_and, Bool.and_true] <;> rfl) (show Put _ 0 _ _ from Put.all (by simp only [List.length_append, nums_length, List.length_cons, List.length_nil, List.length_replicate] <;> omega)) ?_)
    refine RunR.done (by kernel_rfl) ?_
    refine kseq_n ?_
    refine RunC.ret ?_
    refine kret_r [.agg (nums .u64 os).toArray] [] [] ⟨⟨0, b2, 0, 89, nums .u64 os, rfl, rfl, (loadv_seg (U := U) (n := 5) (by kernel_rfl) (by kernel_rfl) (Seg.all _) (by simp only [List.length_append, nums_length, List.length_cons, List.length_nil] <;> omega))⟩, trivial⟩ (by kernel_rfl) rfl ⟨os, rfl, rfl, (by rw [show n = i by omega]; exact hO), (by exact hol)⟩

theorem f_Swap_spec (b : Int) (xs : List Int) (v : Int) (ys : List Int) (w : Int) (hb : fits .u64 b) (hE : El xs v) (hl : xs.length = 5) (hF : El ys w) (hm : ys.length = 5) :
    CallsS Try.prog 88 [.int .u64 b, .agg (nums .u64 xs).toArray, .agg (nums .u64 ys).toArray] [] (fun r D => ∃ (zs : List Int) (us : List Int), r = .tuple #[.agg (nums .u64 zs).toArray, .agg (nums .u64 us).toArray] ∧ D = [] ∧ (El zs (swv b v w)) ∧ (El us (swv b w v)) ∧ (zs.length = 5) ∧ (us.length = 5)) := by
  refine CallsS.enter hU Try.f88 _ [.cell 6 89, .cell 7 89] 47 Try.func88 rfl (by decide) rfl rfl (by kernel_rfl) fun w0 W => ?_
  have hx : In .u64 xs := hE.lim.inn (by decide)
  have hy : In .u64 ys := hF.lim.inn (by decide)
  refine RunC.seq ?_
  refine RunC.region ?_
  refine RunR.step (dst := some 4) (op := .box 89 (.tmp 1)) (by kernel_rfl) (Step.box (.agg (nums .u64 xs).toArray) (by kernel_rfl) (by kernel_rfl) (fun b1 => ?_))
  refine RunR.step (dst := some 5) (op := .box 89 (.tmp 2)) (by kernel_rfl) (Step.box (.agg (nums .u64 ys).toArray) (by kernel_rfl) (by kernel_rfl) (fun b2 => ?_))
  refine RunR.step (dst := some 6) (op := .alloc 89) (by kernel_rfl) (Step.alloc hU 5 40 (.agg #[.int .u64 0, .int .u64 0, .int .u64 0, .int .u64 0, .int .u64 0]) rfl (by kernel_rfl) (fun b3 => ?_))
  have hl4 : (List.replicate 5 (0 : Int)).length = 5 := List.length_replicate
  refine RunR.step (dst := some 7) (op := .alloc 89) (by kernel_rfl) (Step.alloc hU 5 40 (.agg #[.int .u64 0, .int .u64 0, .int .u64 0, .int .u64 0, .int .u64 0]) rfl (by kernel_rfl) (fun b5 => ?_))
  have hl6 : (List.replicate 5 (0 : Int)).length = 5 := List.length_replicate
  refine RunR.done (by kernel_rfl) ?_
  refine kseq_n ?_
  refine RunC.seq ?_
  refine RunC.region ?_
  have hm7 := and_le .u64 rfl b 1 (by decide) (by decide)
  refine RunR.sil hU [] 4 4 [4, 5, 6, 7, 8] [(4, .pointer (some ⟨b1, 0, none⟩)), (5, .pointer (some ⟨b2, 0, none⟩)), (6, .pointer (some ⟨b3, 0, none⟩)), (7, .pointer (some ⟨b5, 0, none⟩)), (8, .int .u64 (IntKind.wrap .u64 (0 - (bits2 .and .u64 b 1))))] ((True) ∧ (True) ∧ (True) ∧ (True) ∧ True) rfl (by kernel_rfl) ⟨trivial, trivial, trivial, trivial, trivial⟩ ?_
  refine RunR.done (by kernel_rfl) ?_
  refine kseq_n ?_
  refine RunC.seq ?_
  refine RunC.seq ?_
  refine RunC.region ?_
  refine RunR.sil hU [] 1 1 [4, 5, 6, 7, 8, 14] [(4, .pointer (some ⟨b1, 0, none⟩)), (5, .pointer (some ⟨b2, 0, none⟩)), (6, .pointer (some ⟨b3, 0, none⟩)), (7, .pointer (some ⟨b5, 0, none⟩)), (8, .int .u64 (IntKind.wrap .u64 (0 - (bits2 .and .u64 b 1)))), (14, .int .i64 0)] ((True) ∧ True) rfl (by kernel_rfl) ⟨trivial, trivial⟩ ?_
  refine RunR.done (by kernel_rfl) ?_
  refine kseq_n ?_
  refine RunC.block ?_
  refine RunC.env [4, 5, 6, 7, 8, 14] [(4, .pointer (some ⟨b1, 0, none⟩)), (5, .pointer (some ⟨b2, 0, none⟩)), (6, .pointer (some ⟨b3, 0, none⟩)), (7, .pointer (some ⟨b5, 0, none⟩)), (8, .int .u64 (IntKind.wrap .u64 (0 - (bits2 .and .u64 b 1)))), (14, .int .i64 0)] (by kernel_rfl) ?_
  refine RunC.only [3, 2, 0, 0] [blk b1 89 (nums .u64 xs), blk b2 89 (nums .u64 ys), blk b5 89 (nums .u64 (List.replicate 5 (0 : Int))), blk b3 89 (nums .u64 (List.replicate 5 (0 : Int)))] (by kernel_rfl) ?_
  refine RunC.loop (σ := Nat) (fun n_ t_ D_ => ∃ (i : Int) (os : List Int) (us : List Int), (0 ≤ i) ∧ (i ≤ 5) ∧ (os = mapP (fun i => if b % 2 = 1 then ys.getD i 0 else xs.getD i 0) xs i.toNat) ∧ (us = mapP (fun i => if b % 2 = 1 then xs.getD i 0 else ys.getD i 0) ys i.toNat) ∧ (os.length = 5) ∧ (us.length = 5) ∧ n_ = ((5 - i).toNat : Nat) ∧ t_ = [(4, .pointer (some ⟨b1, 0, none⟩)), (5, .pointer (some ⟨b2, 0, none⟩)), (6, .pointer (some ⟨b3, 0, none⟩)), (7, .pointer (some ⟨b5, 0, none⟩)), (8, .int .u64 (IntKind.wrap .u64 (0 - (bits2 .and .u64 b 1)))), (14, .int .i64 i)] ∧ D_ = [blk b1 89 (nums .u64 os), blk b2 89 (nums .u64 us), blk b5 89 (nums .u64 (List.replicate 5 (0 : Int))), blk b3 89 (nums .u64 (List.replicate 5 (0 : Int)))]) id _ ⟨0, xs, ys, (by first | assumption | omega | (simp only [List.length_append, List.length_cons, List.length_nil, List.length_set, List.length_replicate, List.length_take, List.length_drop]; omega) | (simp only [fits] at *; omega) | (simp only [List.length_append, List.length_cons, List.length_nil, List.length_set, List.length_replicate, List.length_take, List.length_drop] at *; omega) | (simp; done) | decide), (by first | assumption | omega | (simp only [List.length_append, List.length_cons, List.length_nil, List.length_set, List.length_replicate, List.length_take, List.length_drop]; omega) | (simp only [fits] at *; omega) | (simp only [List.length_append, List.length_cons, List.length_nil, List.length_set, List.length_replicate, List.length_take, List.length_drop] at *; omega) | (simp; done) | decide), (by rfl), (by rfl), (by exact hl), (by exact hm), rfl, rfl, rfl⟩ ?_
  rintro n_ _ _ ⟨i, os, us, hi, hi5, ho, hu, hol, hul, rfl, rfl, rfl⟩
  refine RunC.seq ?_
  refine RunC.region ?_
  refine RunR.sil hU [] 1 1 [4, 5, 6, 7, 8, 14, 15] [(4, .pointer (some ⟨b1, 0, none⟩)), (5, .pointer (some ⟨b2, 0, none⟩)), (6, .pointer (some ⟨b3, 0, none⟩)), (7, .pointer (some ⟨b5, 0, none⟩)), (8, .int .u64 (IntKind.wrap .u64 (0 - (bits2 .and .u64 b 1)))), (14, .int .i64 i), (15, .bool (decide (i < 5)))] ((True) ∧ True) rfl (by kernel_rfl) ⟨trivial, trivial⟩ ?_
  refine RunR.done (by kernel_rfl) ?_
  refine kseq_n ?_
  refine RunC.seq ?_
  refine RunC.condp (i < 5) (by kernel_rfl) (fun h8 => ?_) (fun h8 => ?_)
  · skip
    refine RunC.skip ?_
    refine kseq_n ?_
    refine RunC.seq ?_
    refine RunC.block ?_
    refine RunC.seq ?_
    refine RunC.region ?_
    refine RunR.sil hU [] 2 2 [4, 5, 6, 7, 8, 9, 14] [(4, .pointer (some ⟨b1, 0, none⟩)), (5, .pointer (some ⟨b2, 0, none⟩)), (6, .pointer (some ⟨b3, 0, none⟩)), (7, .pointer (some ⟨b5, 0, none⟩)), (8, .int .u64 (IntKind.wrap .u64 (0 - (bits2 .and .u64 b 1)))), (9, .int .i64 i), (14, .int .i64 i)] ((True) ∧ (True) ∧ True) rfl (by kernel_rfl) ⟨trivial, trivial, trivial⟩ ?_
    refine RunR.done (by kernel_rfl) ?_
    refine kseq_n ?_
    refine RunC.seq ?_
    refine RunC.regionU hU 12 [blk b1 89 (nums .u64 os), blk b2 89 (nums .u64 us)] [0, 1] [11] (bm 12 0) (by kernel_rfl) (by kernel_rfl) (by kernel_rfl) ?_
    refine RunU.sil hU false 0 (bm 12 1) 17 (.int .u64 (IntKind.wrap .u64 (0 - (bits2 .and .u64 b 1)))) (True) (by kernel_rfl) trivial (by kernel_rfl) (by kernel_rfl) (fun _ _ _ h => h) ?_
    refine RunU.sil hU false 1 (bm 12 3) 18 (.int .i64 i) (True) (by kernel_rfl) trivial (by kernel_rfl) (by kernel_rfl) (fun _ _ _ h => h) ?_
    refine RunU.sil hU false 2 (bm 12 7) 19 (.pointer (some ⟨b1, 0, none⟩)) (True) (by kernel_rfl) trivial (by kernel_rfl) (by kernel_rfl) (fun _ _ _ h => h) ?_
    refine RunU.sil hU false 3 (bm 12 15) 20 (.pointer (some ⟨b1, 0 + (i).toNat * 1, none⟩)) (0 ≤ i ∧ i < ((5 : Nat) : Int)) (by kernel_rfl) (by omega) (by kernel_rfl) (by kernel_rfl) (fun _ _ _ h => h) ?_
    refine RunU.read 4 (bm 12 31) 21 (.load 86 (.tmp 20)) (.int .u64 (os.getD ((i).toNat) 0)) [0, 1] (by kernel_rfl) (Reads.load_blk hU 0 b1 (0 + (i).toNat * 1) 89 (nums .u64 os) (.int .u64 (os.getD ((i).toNat) 0)) (by kernel_rfl) (by kernel_rfl) (loadv_one (by kernel_rfl) (Seg.elem (i := (i).toNat) (show Seg _ 0 _ from Seg.all _) (by omega) (by omega)))) (by kernel_rfl) (by kernel_rfl) (by kernel_rfl) (by kernel_rfl) (fun _ _ _ h => h) ?_
    refine RunU.sil hU false 5 (bm 12 63) 22 (.int .i64 i) (True) (by kernel_rfl) trivial (by kernel_rfl) (by kernel_rfl) (fun _ _ _ h => h) ?_
    refine RunU.sil hU false 6 (bm 12 127) 23 (.pointer (some ⟨b2, 0, none⟩)) (True) (by kernel_rfl) trivial (by kernel_rfl) (by kernel_rfl) (fun _ _ _ h => h) ?_
    refine RunU.sil hU false 7 (bm 12 255) 24 (.pointer (some ⟨b2, 0 + (i).toNat * 1, none⟩)) (0 ≤ i ∧ i < ((5 : Nat) : Int)) (by kernel_rfl) (by omega) (by kernel_rfl) (by kernel_rfl) (fun _ _ _ h => h) ?_
    refine RunU.read 8 (bm 12 511) 25 (.load 86 (.tmp 24)) (.int .u64 (us.getD ((i).toNat) 0)) [0, 1] (by kernel_rfl) (Reads.load_blk hU 1 b2 (0 + (i).toNat * 1) 89 (nums .u64 us) (.int .u64 (us.getD ((i).toNat) 0)) (by kernel_rfl) (by kernel_rfl) (loadv_one (by kernel_rfl) (Seg.elem (i := (i).toNat) (show Seg _ 0 _ from Seg.all _) (by omega) (by omega)))) (by kernel_rfl) (by kernel_rfl) (by kernel_rfl) (by kernel_rfl) (fun _ _ _ h => h) ?_
    refine RunU.sil hU false 9 (bm 12 1023) 26 (.int .u64 (bits2 .xor .u64 (os.getD ((i).toNat) 0) (us.getD ((i).toNat) 0))) (True) (by kernel_rfl) trivial (by kernel_rfl) (by kernel_rfl) (fun _ _ _ h => h) ?_
    refine RunU.sil hU false 10 (bm 12 2047) 27 (.int .u64 (bits2 .and .u64 (IntKind.wrap .u64 (0 - (bits2 .and .u64 b 1))) (bits2 .xor .u64 (os.getD ((i).toNat) 0) (us.getD ((i).toNat) 0)))) (True) (by kernel_rfl) trivial (by kernel_rfl) (by kernel_rfl) (fun _ _ _ h => h) ?_
    refine RunU.sil hU false 11 (bm 12 4095) 10 (.int .u64 (bits2 .and .u64 (IntKind.wrap .u64 (0 - (bits2 .and .u64 b 1))) (bits2 .xor .u64 (os.getD ((i).toNat) 0) (us.getD ((i).toNat) 0)))) (True) (by kernel_rfl) trivial (by kernel_rfl) (by kernel_rfl) (fun _ _ _ h => h) ?_
    refine RunU.env [4, 5, 6, 7, 8, 9, 10, 14] [(4, .pointer (some ⟨b1, 0, none⟩)), (5, .pointer (some ⟨b2, 0, none⟩)), (6, .pointer (some ⟨b3, 0, none⟩)), (7, .pointer (some ⟨b5, 0, none⟩)), (8, .int .u64 (IntKind.wrap .u64 (0 - (bits2 .and .u64 b 1)))), (9, .int .i64 i), (10, .int .u64 (bits2 .and .u64 (IntKind.wrap .u64 (0 - (bits2 .and .u64 b 1))) (bits2 .xor .u64 (os.getD ((i).toNat) 0) (us.getD ((i).toNat) 0)))), (14, .int .i64 i)] (by kernel_rfl) ?_
    refine RunU.done (by kernel_rfl) ?_
    refine kseq_n ?_
    refine RunC.seq ?_
    refine RunC.region ?_
    refine RunR.sil hU [] 3 3 [4, 5, 6, 7, 8, 9, 10, 14, 28, 30] [(4, .pointer (some ⟨b1, 0, none⟩)), (5, .pointer (some ⟨b2, 0, none⟩)), (6, .pointer (some ⟨b3, 0, none⟩)), (7, .pointer (some ⟨b5, 0, none⟩)), (8, .int .u64 (IntKind.wrap .u64 (0 - (bits2 .and .u64 b 1)))), (9, .int .i64 i), (10, .int .u64 (bits2 .and .u64 (IntKind.wrap .u64 (0 - (bits2 .and .u64 b 1))) (bits2 .xor .u64 (os.getD ((i).toNat) 0) (us.getD ((i).toNat) 0)))), (14, .int .i64 i), (28, .int .i64 i), (30, .pointer (some ⟨b1, 0 + (i).toNat * 1, none⟩))] ((True) ∧ (True) ∧ (0 ≤ i ∧ i < ((5 : Nat) : Int)) ∧ True) rfl (by kernel_rfl) ⟨trivial, trivial, (by omega), trivial⟩ ?_
    refine RunR.step (dst := some 31) (op := .load 86 (.tmp 30)) (by kernel_rfl) (Step.load_blk hU 0 b1 (0 + (i).toNat * 1) 89 (nums .u64 os) (.int .u64 (os.getD ((i).toNat) 0)) (by kernel_rfl) (by kernel_rfl) (loadv_one (by kernel_rfl) (Seg.elem (i := (i).toNat) (show Seg _ 0 _ from Seg.all _) (by omega) (by omega))) (by kernel_rfl) ?_)
    refine RunR.sil hU [] 4 8 [4, 5, 6, 7, 8, 9, 10, 14, 33, 35] [(4, .pointer (some ⟨b1, 0, none⟩)), (5, .pointer (some ⟨b2, 0, none⟩)), (6, .pointer (some ⟨b3, 0, none⟩)), (7, .pointer (some ⟨b5, 0, none⟩)), (8, .int .u64 (IntKind.wrap .u64 (0 - (bits2 .and .u64 b 1)))), (9, .int .i64 i), (10, .int .u64 (bits2 .and .u64 (IntKind.wrap .u64 (0 - (bits2 .and .u64 b 1))) (bits2 .xor .u64 (os.getD ((i).toNat) 0) (us.getD ((i).toNat) 0)))), (14, .int .i64 i), (33, .int .u64 (bits2 .xor .u64 (os.getD ((i).toNat) 0) (bits2 .and .u64 (IntKind.wrap .u64 (0 - (bits2 .and .u64 b 1))) (bits2 .xor .u64 (os.getD ((i).toNat) 0) (us.getD ((i).toNat) 0))))), (35, .pointer (some ⟨b1, 0 + (i).toNat * 1, none⟩))] ((True) ∧ (True) ∧ (True) ∧ (0 ≤ i ∧ i < ((5 : Nat) : Int)) ∧ True) rfl (by kernel_rfl) ⟨trivial, trivial, trivial, (by omega), trivial⟩ ?_
    have hl9 : (os.set ((i).toNat) (bits2 .xor .u64 (os.getD ((i).toNat) 0) (bits2 .and .u64 (IntKind.wrap .u64 (0 - (bits2 .and .u64 b 1))) (bits2 .xor .u64 (os.getD ((i).toNat) 0) (us.getD ((i).toNat) 0))))).length = os.length := List.length_set
    refine RunR.step (dst := none) (op := .store 86 (.tmp 35) (.tmp 33)) (by kernel_rfl) (Step.store_seg hU 0 b1 (0 + (i).toNat * 1) 89 (nums .u64 os) (nums .u64 (os.set ((i).toNat) (bits2 .xor .u64 (os.getD ((i).toNat) 0) (bits2 .and .u64 (IntKind.wrap .u64 (0 - (bits2 .and .u64 b 1))) (bits2 .xor .u64 (os.getD ((i).toNat) 0) (us.getD ((i).toNat) 0)))))) ([.int .u64 (bits2 .xor .u64 (os.getD ((i).toNat) 0) (bits2 .and .u64 (IntKind.wrap .u64 (0 - (bits2 .and .u64 b 1))) (bits2 .xor .u64 (os.getD ((i).toNat) 0) (us.getD ((i).toNat) 0))))]) (.int .u64 (bits2 .xor .u64 (os.getD ((i).toNat) 0) (bits2 .and .u64 (IntKind.wrap .u64 (0 - (bits2 .and .u64 b 1))) (bits2 .xor .u64 (os.getD ((i).toNat) 0) (us.getD ((i).toNat) 0))))) (by kernel_rfl) (by kernel_rfl) (by kernel_rfl) 1 (by kernel_rfl) (by kernel_rfl) (by first | rfl | (simp only [List.length_append, nums_length, List.length_cons, List.length_nil, List.length_replicate]; omega) | (simp [nums_length, *])) (by kernel_rfl) ((Put.nth (i := (i).toNat) (by omega) rfl).at (by omega)) ?_)
    refine RunR.done (by kernel_rfl) ?_
    refine kseq_n ?_
    refine RunC.region ?_
    refine RunR.sil hU [] 3 3 [4, 5, 6, 7, 8, 10, 14, 36, 38] [(4, .pointer (some ⟨b1, 0, none⟩)), (5, .pointer (some ⟨b2, 0, none⟩)), (6, .pointer (some ⟨b3, 0, none⟩)), (7, .pointer (some ⟨b5, 0, none⟩)), (8, .int .u64 (IntKind.wrap .u64 (0 - (bits2 .and .u64 b 1)))), (10, .int .u64 (bits2 .and .u64 (IntKind.wrap .u64 (0 - (bits2 .and .u64 b 1))) (bits2 .xor .u64 (os.getD ((i).toNat) 0) (us.getD ((i).toNat) 0)))), (14, .int .i64 i), (36, .int .i64 i), (38, .pointer (some ⟨b2, 0 + (i).toNat * 1, none⟩))] ((True) ∧ (True) ∧ (0 ≤ i ∧ i < ((5 : Nat) : Int)) ∧ True) rfl (by kernel_rfl) ⟨trivial, trivial, (by omega), trivial⟩ ?_
    refine RunR.step (dst := some 39) (op := .load 86 (.tmp 38)) (by kernel_rfl) (Step.load_blk hU 1 b2 (0 + (i).toNat * 1) 89 (nums .u64 us) (.int .u64 (us.getD ((i).toNat) 0)) (by kernel_rfl) (by kernel_rfl) (loadv_one (by kernel_rfl) (Seg.elem (i := (i).toNat) (show Seg _ 0 _ from Seg.all _) (by omega) (by omega))) (by kernel_rfl) ?_)
    refine RunR.sil hU [] 4 8 [4, 5, 6, 7, 8, 14, 41, 43] [(4, .pointer (some ⟨b1, 0, none⟩)), (5, .pointer (some ⟨b2, 0, none⟩)), (6, .pointer (some ⟨b3, 0, none⟩)), (7, .pointer (some ⟨b5, 0, none⟩)), (8, .int .u64 (IntKind.wrap .u64 (0 - (bits2 .and .u64 b 1)))), (14, .int .i64 i), (41, .int .u64 (bits2 .xor .u64 (us.getD ((i).toNat) 0) (bits2 .and .u64 (IntKind.wrap .u64 (0 - (bits2 .and .u64 b 1))) (bits2 .xor .u64 (os.getD ((i).toNat) 0) (us.getD ((i).toNat) 0))))), (43, .pointer (some ⟨b2, 0 + (i).toNat * 1, none⟩))] ((True) ∧ (True) ∧ (True) ∧ (0 ≤ i ∧ i < ((5 : Nat) : Int)) ∧ True) rfl (by kernel_rfl) ⟨trivial, trivial, trivial, (by omega), trivial⟩ ?_
    have hl10 : (us.set ((i).toNat) (bits2 .xor .u64 (us.getD ((i).toNat) 0) (bits2 .and .u64 (IntKind.wrap .u64 (0 - (bits2 .and .u64 b 1))) (bits2 .xor .u64 (os.getD ((i).toNat) 0) (us.getD ((i).toNat) 0))))).length = us.length := List.length_set
    refine RunR.step (dst := none) (op := .store 86 (.tmp 43) (.tmp 41)) (by kernel_rfl) (Step.store_seg hU 1 b2 (0 + (i).toNat * 1) 89 (nums .u64 us) (nums .u64 (us.set ((i).toNat) (bits2 .xor .u64 (us.getD ((i).toNat) 0) (bits2 .and .u64 (IntKind.wrap .u64 (0 - (bits2 .and .u64 b 1))) (bits2 .xor .u64 (os.getD ((i).toNat) 0) (us.getD ((i).toNat) 0)))))) ([.int .u64 (bits2 .xor .u64 (us.getD ((i).toNat) 0) (bits2 .and .u64 (IntKind.wrap .u64 (0 - (bits2 .and .u64 b 1))) (bits2 .xor .u64 (os.getD ((i).toNat) 0) (us.getD ((i).toNat) 0))))]) (.int .u64 (bits2 .xor .u64 (us.getD ((i).toNat) 0) (bits2 .and .u64 (IntKind.wrap .u64 (0 - (bits2 .and .u64 b 1))) (bits2 .xor .u64 (os.getD ((i).toNat) 0) (us.getD ((i).toNat) 0))))) (by kernel_rfl) (by kernel_rfl) (by kernel_rfl) 1 (by kernel_rfl) (by kernel_rfl) (by first | rfl | (simp only [List.length_append, nums_length, List.length_cons, List.length_nil, List.length_replicate]; omega) | (simp [nums_length, *])) (by kernel_rfl) ((Put.nth (i := (i).toNat) (by omega) rfl).at (by omega)) ?_)
    refine RunR.done (by kernel_rfl) ?_
    refine kblock_n ?_
    refine kseq_n ?_
    refine RunC.region ?_
    refine RunR.sil hU [0] 2 2 [4, 5, 6, 7, 8, 14] [(4, .pointer (some ⟨b1, 0, none⟩)), (5, .pointer (some ⟨b2, 0, none⟩)), (6, .pointer (some ⟨b3, 0, none⟩)), (7, .pointer (some ⟨b5, 0, none⟩)), (8, .int .u64 (IntKind.wrap .u64 (0 - (bits2 .and .u64 b 1)))), (14, .int .i64 (i + 1))] ((-9223372036854775808 ≤ (i + 1) ∧ (i + 1) < 9223372036854775808) ∧ (True) ∧ True) rfl (by kernel_rfl) ⟨(by omega), trivial, trivial⟩ ?_
    refine RunR.done (by kernel_rfl) ?_
    refine kloop_n _ [4, 5, 6, 7, 8, 14] [1, 0, 0, 0] [(4, .pointer (some ⟨b1, 0, none⟩)), (5, .pointer (some ⟨b2, 0, none⟩)), (6, .pointer (some ⟨b3, 0, none⟩)), (7, .pointer (some ⟨b5, 0, none⟩)), (8, .int .u64 (IntKind.wrap .u64 (0 - (bits2 .and .u64 b 1)))), (14, .int .i64 (i + 1))] [blk b1 89 (nums .u64 (os.set ((i).toNat) (bits2 .xor .u64 (os.getD ((i).toNat) 0) (bits2 .and .u64 (IntKind.wrap .u64 (0 - (bits2 .and .u64 b 1))) (bits2 .xor .u64 (os.getD ((i).toNat) 0) (us.getD ((i).toNat) 0)))))), blk b2 89 (nums .u64 (us.set ((i).toNat) (bits2 .xor .u64 (us.getD ((i).toNat) 0) (bits2 .and .u64 (IntKind.wrap .u64 (0 - (bits2 .and .u64 b 1))) (bits2 .xor .u64 (os.getD ((i).toNat) 0) (us.getD ((i).toNat) 0)))))), blk b5 89 (nums .u64 (List.replicate 5 (0 : Int))), blk b3 89 (nums .u64 (List.replicate 5 (0 : Int)))] (by kernel_rfl) (by kernel_rfl) ?_ ⟨(i + 1), (os.set ((i).toNat) (bits2 .xor .u64 (os.getD ((i).toNat) 0) (bits2 .and .u64 (IntKind.wrap .u64 (0 - (bits2 .and .u64 b 1))) (bits2 .xor .u64 (os.getD ((i).toNat) 0) (us.getD ((i).toNat) 0))))), (us.set ((i).toNat) (bits2 .xor .u64 (us.getD ((i).toNat) 0) (bits2 .and .u64 (IntKind.wrap .u64 (0 - (bits2 .and .u64 b 1))) (bits2 .xor .u64 (os.getD ((i).toNat) 0) (us.getD ((i).toNat) 0))))), (by first | assumption | omega | (simp only [List.length_append, List.length_cons, List.length_nil, List.length_set, List.length_replicate, List.length_take, List.length_drop]; omega) | (simp only [fits] at *; omega) | (simp only [List.length_append, List.length_cons, List.length_nil, List.length_set, List.length_replicate, List.length_take, List.length_drop] at *; omega) | (simp; done) | decide), (by first | assumption | omega | (simp only [List.length_append, List.length_cons, List.length_nil, List.length_set, List.length_replicate, List.length_take, List.length_drop]; omega) | (simp only [fits] at *; omega) | (simp only [List.length_append, List.length_cons, List.length_nil, List.length_set, List.length_replicate, List.length_take, List.length_drop] at *; omega) | (simp; done) | decide), (by rw [show (i + 1).toNat = i.toNat + 1 by omega]; exact (sw_step hb hx hy hl hm (by omega) ho hu).1), (by rw [show (i + 1).toNat = i.toNat + 1 by omega]; exact (sw_step hb hx hy hl hm (by omega) ho hu).2), (by simp only [List.length_set]; exact hol), (by simp only [List.length_set]; exact hul), rfl, (by first | rfl | simp only [List.length_set]), (by first | rfl | simp only [List.length_set])⟩
    show ((5 - (i + 1)).toNat : Nat) < ((5 - i).toNat : Nat)
    omega
  · skip
    refine RunC.exit ?_
    refine kseq_e ?_
    refine kloop_e ?_
    refine kblock_e ?_
    refine kseq_n ?_
    refine RunC.seq ?_
    refine RunC.regionU hU 4 [blk b1 89 (nums .u64 os), blk b2 89 (nums .u64 us)] [0, 1] [3] (bm 4 0) (by kernel_rfl) (by kernel_rfl) (by kernel_rfl) ?_
    refine RunU.read 0 (bm 4 1) 45 (.load 89 (.tmp 4)) (.agg (nums .u64 os).toArray) [0, 1] (by kernel_rfl) (Reads.load_blk hU 0 b1 (0) 89 (nums .u64 os) (.agg (nums .u64 os).toArray) (by kernel_rfl) (by kernel_rfl) (loadv_seg (n := 5) (by kernel_rfl) (by kernel_rfl) (Seg.all _) (by simp only [List.length_append, nums_length, List.length_cons, List.length_nil] <;> omega))) (by kernel_rfl) (by kernel_rfl) (by kernel_rfl) (by kernel_rfl) (fun _ _ _ h => h) ?_
    refine RunU.read 1 (bm 4 3) 46 (.load 89 (.tmp 5)) (.agg (nums .u64 us).toArray) [0, 1] (by kernel_rfl) (Reads.load_blk hU 1 b2 (0) 89 (nums .u64 us) (.agg (nums .u64 us).toArray) (by kernel_rfl) (by kernel_rfl) (loadv_seg (n := 5) (by kernel_rfl) (by kernel_rfl) (Seg.all _) (by simp only [List.length_append, nums_length, List.length_cons, List.length_nil] <;> omega))) (by kernel_rfl) (by kernel_rfl) (by kernel_rfl) (by kernel_rfl) (fun _ _ _ h => h) ?_
    refine RunU.one (dst := none) (op := .store 89 (.tmp 6) (.tmp 45)) 2 (bm 4 7) [1, 2] (by kernel_rfl) (by kernel_rfl) (Step.store_seg hU 3 b3 (0) 89 (nums .u64 (List.replicate 5 (0 : Int))) (nums .u64 os) (nums .u64 os) (.agg (nums .u64 os).toArray) (by kernel_rfl) (by kernel_rfl) (by kernel_rfl) 5 (by kernel_rfl) (by kernel_rfl) (by first | rfl | (simp only [List.length_append, nums_length, List.length_cons, List.length_nil, List.length_replicate]; omega) | (simp [nums_length, *])) (by simp only [List.all_append, all_one_nums, Bool.true_and, Bool.and_true] <;> rfl) (show Put _ 0 _ _ from Put.all (by simp only [List.length_append, nums_length, List.length_cons, List.length_nil, List.length_replicate] <;> omega)) ?_)
    refine ⟨.inl (by kernel_rfl), ?_⟩
    refine RunU.one (dst := none) (op := .store 89 (.tmp 7) (.tmp 46)) 3 (bm 4 15) [] (by kernel_rfl) (by kernel_rfl) (Step.store_seg hU 3 b5 (0) 89 (nums .u64 (List.replicate 5 (0 : Int))) (nums .u64 us) (nums .u64 us) (.agg (nums .u64 us).toArray) (by kernel_rfl) (by kernel_rfl) (by kernel_rfl) 5 (by kernel_rfl) (by kernel_rfl) (by first | rfl | (simp only [List.length_append, nums_length, List.length_cons, List.length_nil, List.length_replicate]; omega) | (simp [nums_length, *])) (by simp only [List.all_append, all_one_nums, Bool.true_and, Bool.and_true] <;> rfl) (show Put _ 0 _ _ from Put.all (by simp only [List.length_append, nums_length, List.length_cons, List.length_nil, List.length_replicate] <;> omega)) ?_)
    refine ⟨.inr (by kernel_rfl), ?_⟩
    refine RunU.env [6, 7] [(6, .pointer (some ⟨b3, 0, none⟩)), (7, .pointer (some ⟨b5, 0, none⟩))] (by kernel_rfl) ?_
    refine RunU.done (by kernel_rfl) ?_
    refine kseq_n ?_
    refine RunC.ret ?_
    refine kret_r [.agg (nums .u64 os).toArray, .agg (nums .u64 us).toArray] [] [] ⟨⟨1, b3, 0, 89, nums .u64 os, rfl, rfl, (loadv_seg (U := U) (n := 5) (by kernel_rfl) (by kernel_rfl) (Seg.all _) (by simp only [List.length_append, nums_length, List.length_cons, List.length_nil] <;> omega))⟩, ⟨0, b5, 0, 89, nums .u64 us, rfl, rfl, (loadv_seg (U := U) (n := 5) (by kernel_rfl) (by kernel_rfl) (Seg.all _) (by simp only [List.length_append, nums_length, List.length_cons, List.length_nil] <;> omega))⟩, trivial⟩ (by kernel_rfl) rfl ⟨os, us, rfl, rfl, (by rw [sw_end hl hm (os := os) (by rw [ho, show i = 5 by omega] <;> rfl)]; exact sw_el hE hF), (by rw [sw_end hm hl (os := us) (by rw [hu, show i = 5 by omega] <;> rfl)]; exact sw_el hF hE), (by exact hol), (by exact hul)⟩
end Go.Proofs.Ytaaplakahkgclaa.X9
