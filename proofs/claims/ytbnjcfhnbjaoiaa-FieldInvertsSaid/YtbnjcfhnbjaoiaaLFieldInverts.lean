/- The law FieldInverts returns true whatever it is handed: its walk, on the contracts of what it calls. -/
import Derived.Test.YtbnjcfhnbjaoiaaIPure
import Derived.Test.YtbnjcfhnbjaoiaaProg
import Derived.Test.YtbnjcfhnbjaoiaaX1
import Derived.Test.YtbnjcfhnbjaoiaaX2
import Derived.Test.YtbnjcfhnbjaoiaaX4
import Derived.Test.YtbnjcfhnbjaoiaaX6
import Derived.Test.YtbnjcfhnbjaoiaaX7
import Derived.Test.YtbnjcfhnbjaoiaaX8
import Derived.Test.YtbnjcfhnbjaoiaaX9
import Derived.Test.YtbnjcfhnbjaoiaaY1
import Derived.Test.YtbnjcfhnbjaoiaaY2
import Derived.Test.YtbnjcfhnbjaoiaaY3
import Derived.Test.YtbnjcfhnbjaoiaaY4
import Derived.Test.YtbnjcfhnbjaoiaaY5
import Derived.Test.YtbnjcfhnbjaoiaaY7
import Derived.Test.YtbnjcfhnbjaoiaaY8
import Derived.Test.YtbnjcfhnbjaoiaaZ1
import Derived.Test.YtbnjcfhnbjaoiaaZ2
namespace Go.Proofs.Ytbnjcfhnbjaoiaa.LFieldInverts
open Go Go.Proofs.Ytbnjcfhnbjaoiaa.SL Go.Proofs.Ytbnjcfhnbjaoiaa.SL.W Go.Proofs.Ytbnjcfhnbjaoiaa.SL.F Go.Proofs.Ytbnjcfhnbjaoiaa.SL.N Go.Proofs.Ytbnjcfhnbjaoiaa.SL.E Go.Proofs.Ytbnjcfhnbjaoiaa.X1 Go.Proofs.Ytbnjcfhnbjaoiaa.X2 Go.Proofs.Ytbnjcfhnbjaoiaa.X4 Go.Proofs.Ytbnjcfhnbjaoiaa.X6 Go.Proofs.Ytbnjcfhnbjaoiaa.X7 Go.Proofs.Ytbnjcfhnbjaoiaa.X8 Go.Proofs.Ytbnjcfhnbjaoiaa.X9 Go.Proofs.Ytbnjcfhnbjaoiaa.Y1 Go.Proofs.Ytbnjcfhnbjaoiaa.Y2 Go.Proofs.Ytbnjcfhnbjaoiaa.Y3 Go.Proofs.Ytbnjcfhnbjaoiaa.Y4 Go.Proofs.Ytbnjcfhnbjaoiaa.Y5 Go.Proofs.Ytbnjcfhnbjaoiaa.Y7 Go.Proofs.Ytbnjcfhnbjaoiaa.Y8 Go.Proofs.Ytbnjcfhnbjaoiaa.Z1 Go.Proofs.Ytbnjcfhnbjaoiaa.Z2
set_option linter.unusedVariables false
set_option linter.unusedSimpArgs false
set_option maxRecDepth 100000
set_option maxHeartbeats 40000000
def U : Tab where
  und := [(3, .int .i64), (5, .int .u8), (24, .int .u64), (25, .array 5 24), (26, .struct #[{ name := "n", type := 25, offset := 0, embedded := false, tag := "", pkgPath := "orlop/field", byteOffset := 0 }]), (27, .struct #[{ name := "n", type := 25, offset := 0, embedded := false, tag := "", pkgPath := "orlop/field", byteOffset := 0 }]), (30, .array 32 3), (31, .array 32 3), (48, .array 32 5)]
  fld := [((26, 0), (0, 25)), ((27, 0), (0, 25))]
  sz := [(3, 1), (5, 1), (24, 1), (25, 5), (26, 5), (27, 5), (30, 32), (31, 32), (48, 32)]
  ti := [(3, (1, 8, .int .i64 0)), (5, (1, 1, .int .u8 0)), (24, (1, 8, .int .u64 0)), (25, (5, 40, .agg #[.int .u64 0, .int .u64 0, .int .u64 0, .int .u64 0, .int .u64 0])), (26, (5, 40, .agg #[.int .u64 0, .int .u64 0, .int .u64 0, .int .u64 0, .int .u64 0])), (27, (5, 40, .agg #[.int .u64 0, .int .u64 0, .int .u64 0, .int .u64 0, .int .u64 0])), (30, (32, 256, .agg #[.int .i64 0, .int .i64 0, .int .i64 0, .int .i64 0, .int .i64 0, .int .i64 0, .int .i64 0, .int .i64 0, .int .i64 0, .int .i64 0, .int .i64 0, .int .i64 0, .int .i64 0, .int .i64 0, .int .i64 0, .int .i64 0, .int .i64 0, .int .i64 0, .int .i64 0, .int .i64 0, .int .i64 0, .int .i64 0, .int .i64 0, .int .i64 0, .int .i64 0, .int .i64 0, .int .i64 0, .int .i64 0, .int .i64 0, .int .i64 0, .int .i64 0, .int .i64 0])), (31, (32, 256, .agg #[.int .i64 0, .int .i64 0, .int .i64 0, .int .i64 0, .int .i64 0, .int .i64 0, .int .i64 0, .int .i64 0, .int .i64 0, .int .i64 0, .int .i64 0, .int .i64 0, .int .i64 0, .int .i64 0, .int .i64 0, .int .i64 0, .int .i64 0, .int .i64 0, .int .i64 0, .int .i64 0, .int .i64 0, .int .i64 0, .int .i64 0, .int .i64 0, .int .i64 0, .int .i64 0, .int .i64 0, .int .i64 0, .int .i64 0, .int .i64 0, .int .i64 0, .int .i64 0])), (48, (32, 32, .agg #[.int .u8 0, .int .u8 0, .int .u8 0, .int .u8 0, .int .u8 0, .int .u8 0, .int .u8 0, .int .u8 0, .int .u8 0, .int .u8 0, .int .u8 0, .int .u8 0, .int .u8 0, .int .u8 0, .int .u8 0, .int .u8 0, .int .u8 0, .int .u8 0, .int .u8 0, .int .u8 0, .int .u8 0, .int .u8 0, .int .u8 0, .int .u8 0, .int .u8 0, .int .u8 0, .int .u8 0, .int .u8 0, .int .u8 0, .int .u8 0, .int .u8 0, .int .u8 0]))]
  bld := [(26, [(0, 5)]), (27, [(0, 5)])]

theorem hU : U.OK Try.prog where
  und := by
    intro p hp
    simp only [U, List.mem_cons, List.not_mem_nil, or_false] at hp
    rcases hp with rfl | rfl | rfl | rfl | rfl | rfl | rfl | rfl | rfl
    · exact Try.underlying3
    · exact Try.underlying5
    · exact Try.underlying24
    · exact Try.underlying25
    · exact Try.underlying26
    · exact Try.underlying27
    · exact Try.underlying30
    · exact Try.underlying31
    · exact Try.underlying48
  fld := by
    intro p hp
    simp only [U, List.mem_cons, List.not_mem_nil, or_false] at hp
    rcases hp with rfl | rfl
    · exact ⟨_, _, Try.underlying26, rfl, rfl, rfl, Try.prog.types[25]!, by kernel_rfl, by decide +kernel⟩
    · exact ⟨_, _, Try.underlying27, rfl, rfl, rfl, Try.prog.types[25]!, by kernel_rfl, by decide +kernel⟩
  sz := by
    intro p hp
    simp only [U, List.mem_cons, List.not_mem_nil, or_false] at hp
    rcases hp with rfl | rfl | rfl | rfl | rfl | rfl | rfl | rfl | rfl
    · exact ⟨Try.prog.types[3]!, by kernel_rfl, by kernel_rfl⟩
    · exact ⟨Try.prog.types[5]!, by kernel_rfl, by kernel_rfl⟩
    · exact ⟨Try.prog.types[24]!, by kernel_rfl, by kernel_rfl⟩
    · exact ⟨Try.prog.types[25]!, by kernel_rfl, by kernel_rfl⟩
    · exact ⟨Try.prog.types[26]!, by kernel_rfl, by kernel_rfl⟩
    · exact ⟨Try.prog.types[27]!, by kernel_rfl, by kernel_rfl⟩
    · exact ⟨Try.prog.types[30]!, by kernel_rfl, by kernel_rfl⟩
    · exact ⟨Try.prog.types[31]!, by kernel_rfl, by kernel_rfl⟩
    · exact ⟨Try.prog.types[48]!, by kernel_rfl, by kernel_rfl⟩
  ti := by
    intro p hp
    simp only [U, List.mem_cons, List.not_mem_nil, or_false] at hp
    rcases hp with rfl | rfl | rfl | rfl | rfl | rfl | rfl | rfl | rfl
    · exact ⟨Try.prog.types[3]!, by kernel_rfl, by kernel_rfl, by kernel_rfl, by kernel_rfl⟩
    · exact ⟨Try.prog.types[5]!, by kernel_rfl, by kernel_rfl, by kernel_rfl, by kernel_rfl⟩
    · exact ⟨Try.prog.types[24]!, by kernel_rfl, by kernel_rfl, by kernel_rfl, by kernel_rfl⟩
    · exact ⟨Try.prog.types[25]!, by kernel_rfl, by kernel_rfl, by kernel_rfl, by kernel_rfl⟩
    · exact ⟨Try.prog.types[26]!, by kernel_rfl, by kernel_rfl, by kernel_rfl, by kernel_rfl⟩
    · exact ⟨Try.prog.types[27]!, by kernel_rfl, by kernel_rfl, by kernel_rfl, by kernel_rfl⟩
    · exact ⟨Try.prog.types[30]!, by kernel_rfl, by kernel_rfl, by kernel_rfl, by kernel_rfl⟩
    · exact ⟨Try.prog.types[31]!, by kernel_rfl, by kernel_rfl, by kernel_rfl, by kernel_rfl⟩
    · exact ⟨Try.prog.types[48]!, by kernel_rfl, by kernel_rfl, by kernel_rfl, by kernel_rfl⟩
  bld := by
    intro p hp
    simp only [U, List.mem_cons, List.not_mem_nil, or_false] at hp
    rcases hp with rfl | rfl
    · exact ⟨_, Try.underlying26, by kernel_rfl⟩
    · exact ⟨_, Try.underlying27, by kernel_rfl⟩
  mixed := by kernel_rfl

theorem l7_FieldInverts_spec (xs : List Int) (h8xs : In .u8 xs) (hlxs : xs.length = 32) :
    CallsS Try.prog 10 [.agg (nums .u8 xs).toArray] [] (fun r D => r = .bool true ∧ D = []) := by
  refine CallsS.enter hU Try.f10 _ [.tmp 2] 31 Try.func10 rfl (by decide) rfl rfl (by kernel_rfl) fun w0 W => ?_
  refine RunC.seq ?_
  refine RunC.region ?_
  refine RunR.step (dst := some 1) (op := .box 48 (.tmp 0)) (by kernel_rfl) (Step.box (.agg (nums .u8 xs).toArray) (by kernel_rfl) (by kernel_rfl) (fun b1 => ?_))
  refine RunR.sil hU [] 1 2 [1, 2] [(1, .pointer (some ⟨b1, 0, none⟩)), (2, .bool false)] ((True) ∧ True) rfl (by kernel_rfl) ⟨trivial, trivial⟩ ?_
  refine RunR.done (by kernel_rfl) ?_
  refine kseq_n ?_
  refine RunC.seq ?_
  refine RunC.seq ?_
  refine RunC.region ?_
  refine RunR.step (dst := some 7) (op := .call { callee := .value (.func 13), args := #[], argTypes := #[] }) (by kernel_rfl) (Step.call 13 [] (by kernel_rfl) (by kernel_rfl) [] [] [blk b1 48 (nums .u8 xs)] (l7_awake_spec) [] (by kernel_rfl) (Lend.nil _) ?_)
  rintro _ _ ⟨rfl, rfl⟩
  refine RunR.sil hU [] 1 2 [1, 2, 8] [(1, .pointer (some ⟨b1, 0, none⟩)), (2, .bool false), (8, .bool false)] ((True) ∧ True) rfl (by kernel_rfl) ⟨trivial, trivial⟩ ?_
  refine RunR.done (by kernel_rfl) ?_
  refine kseq_n ?_
  refine RunC.cond (b := false) (by kernel_rfl) (fun h => by cases h) (fun _ => ?_)
  refine RunC.skip ?_
  refine kseq_n ?_
  refine RunC.seq ?_
  refine RunC.region ?_
  refine RunR.sil hU [] 1 1 [1, 2, 9] [(1, .pointer (some ⟨b1, 0, none⟩)), (2, .bool false), (9, .slice (some ⟨b1, 0, none⟩) 32 32)] ((True) ∧ True) rfl (by kernel_rfl) ⟨trivial, trivial⟩ ?_
  refine RunR.step (dst := some 10) (op := .call { callee := .value (.func 14), args := #[.tmp 9], argTypes := #[22] }) (by kernel_rfl) (Step.call 14 [.slice (some ⟨b1, 0, none⟩) 32 32] (by kernel_rfl) (by kernel_rfl) [] [vw (some ⟨b1, 0, none⟩) (nums .u8 xs)] [blk b1 48 (nums .u8 xs)] (f_From_spec (some ⟨b1, 0, none⟩) 32 xs 32 h8xs (by first | assumption | omega | (simp only [List.length_append, List.length_cons, List.length_nil, List.length_set, List.length_replicate, List.length_take, List.length_drop]; omega) | (simp only [fits] at *; omega) | (simp only [List.length_append, List.length_cons, List.length_nil, List.length_set, List.length_replicate, List.length_take, List.length_drop] at *; omega) | (simp; done) | decide) (by first | rfl | assumption | omega | (simp only [List.length_append, List.length_cons, List.length_nil, List.length_set, List.length_replicate, List.length_take, List.length_drop]; omega) | (simp; done))) [] (by kernel_rfl) ((Lend.nil _).tells 0 (blk b1 48 (nums .u8 xs)) (some ⟨b1, 0, none⟩) (nums .u8 xs) (by kernel_rfl) (tells_blk _ _ 0 _ _ (by simp))) ?_)
  rintro _ _ ⟨zs2, rfl, rfl, hp3, hp4⟩
  refine RunR.step (dst := some 3) (op := .alloc 27) (by kernel_rfl) (Step.alloc hU 5 40 (.agg #[.int .u64 0, .int .u64 0, .int .u64 0, .int .u64 0, .int .u64 0]) rfl (by kernel_rfl) (fun b5 => ?_))
  have hl6 : (List.replicate 5 (0 : Int)).length = 5 := List.length_replicate
  refine RunR.step (dst := none) (op := .store 27 (.tmp 3) (.tmp 10)) (by kernel_rfl) (Step.store_seg hU 0 b5 (0) 27 (nums .u64 (List.replicate 5 (0 : Int))) (nums .u64 zs2) (nums .u64 zs2) (.agg (nums .u64 zs2).toArray) (by kernel_rfl) (by kernel_rfl) (by kernel_rfl) 5 (by kernel_rfl) (by kernel_rfl) (by first | rfl | (simp only [List.length_append, nums_length, List.length_cons, List.length_nil, List.length_replicate]; omega) | (simp [nums_length, *])) (by simp only [List.all_append, all_one_nums, Bool.true_and, Bool.and_true] <;> rfl) (show Put _ 0 _ _ from Put.all (by simp only [List.length_append, nums_length, List.length_cons, List.length_nil, List.length_replicate] <;> omega)) ?_)
  refine RunR.done (by kernel_rfl) ?_
  refine kseq_n ?_
  refine RunC.seq ?_
  refine RunC.region ?_
  refine RunR.sil hU [] 1 1 [2, 3, 11] [(2, .bool false), (3, .pointer (some ⟨b5, 0, none⟩)), (11, .slice (some ⟨b1, 0, none⟩) 32 32)] ((True) ∧ True) rfl (by kernel_rfl) ⟨trivial, trivial⟩ ?_
  refine RunR.step (dst := some 12) (op := .call { callee := .value (.func 16), args := #[.tmp 11], argTypes := #[22] }) (by kernel_rfl) (Step.call 16 [.slice (some ⟨b1, 0, none⟩) 32 32] (by kernel_rfl) (by kernel_rfl) [] [vw (some ⟨b1, 0, none⟩) (nums .u8 xs)] [blk b5 27 (nums .u64 zs2), blk b1 48 (nums .u8 xs)] (n_From_spec (some ⟨b1, 0, none⟩) 32 xs 32 h8xs (by first | assumption | omega | (simp only [List.length_append, List.length_cons, List.length_nil, List.length_set, List.length_replicate, List.length_take, List.length_drop]; omega) | (simp only [fits] at *; omega) | (simp only [List.length_append, List.length_cons, List.length_nil, List.length_set, List.length_replicate, List.length_take, List.length_drop] at *; omega) | (simp; done) | decide) (by first | rfl | assumption | omega | (simp only [List.length_append, List.length_cons, List.length_nil, List.length_set, List.length_replicate, List.length_take, List.length_drop]; omega) | (simp; done))) [] (by kernel_rfl) ((Lend.nil _).tells 1 (blk b1 48 (nums .u8 xs)) (some ⟨b1, 0, none⟩) (nums .u8 xs) (by kernel_rfl) (tells_blk _ _ 0 _ _ (by simp))) ?_)
  rintro _ _ ⟨zs7, rfl, rfl, hp8, hp9⟩
  refine RunR.step (dst := some 4) (op := .alloc 31) (by kernel_rfl) (Step.alloc hU 32 256 (.agg #[.int .i64 0, .int .i64 0, .int .i64 0, .int .i64 0, .int .i64 0, .int .i64 0, .int .i64 0, .int .i64 0, .int .i64 0, .int .i64 0, .int .i64 0, .int .i64 0, .int .i64 0, .int .i64 0, .int .i64 0, .int .i64 0, .int .i64 0, .int .i64 0, .int .i64 0, .int .i64 0, .int .i64 0, .int .i64 0, .int .i64 0, .int .i64 0, .int .i64 0, .int .i64 0, .int .i64 0, .int .i64 0, .int .i64 0, .int .i64 0, .int .i64 0, .int .i64 0]) rfl (by kernel_rfl) (fun b10 => ?_))
  have hl11 : (List.replicate 32 (0 : Int)).length = 32 := List.length_replicate
  refine RunR.step (dst := none) (op := .store 31 (.tmp 4) (.tmp 12)) (by kernel_rfl) (Step.store_arr hU 0 b10 31 32 .i64 (List.replicate 32 (0 : Int)) zs7 (by kernel_rfl) (by kernel_rfl) (by kernel_rfl) (by kernel_rfl) (by first | rfl | omega | (simp; done)) (by first | rfl | omega | (simp; done)) ?_)
  refine RunR.done (by kernel_rfl) ?_
  refine kseq_n ?_
  refine RunC.seq ?_
  refine RunC.region ?_
  refine RunR.step (dst := some 13) (op := .load 27 (.tmp 3)) (by kernel_rfl) (Step.load_blk hU 1 b5 (0) 27 (nums .u64 zs2) (.agg (nums .u64 zs2).toArray) (by kernel_rfl) (by kernel_rfl) (loadv_seg (n := 5) (by kernel_rfl) (by kernel_rfl) (Seg.all _) (by simp only [List.length_append, nums_length, List.length_cons, List.length_nil] <;> omega)) (by kernel_rfl) ?_)
  refine RunR.step (dst := some 14) (op := .call { callee := .value (.func 38), args := #[.tmp 13], argTypes := #[27] }) (by kernel_rfl) (Step.call 38 [.agg (nums .u64 zs2).toArray] (by kernel_rfl) (by kernel_rfl) [] [] [blk b10 31 (nums .i64 zs7), blk b5 27 (nums .u64 zs2), blk b1 48 (nums .u8 xs)] (f_Invert_spec zs2 (fromV xs % P) (by first | assumption | omega | (simp only [List.length_append, List.length_cons, List.length_nil, List.length_set, List.length_replicate, List.length_take, List.length_drop]; omega) | (simp only [fits] at *; omega) | (simp only [List.length_append, List.length_cons, List.length_nil, List.length_set, List.length_replicate, List.length_take, List.length_drop] at *; omega) | (simp; done) | decide) (by first | rfl | assumption | omega | (simp only [List.length_append, List.length_cons, List.length_nil, List.length_set, List.length_replicate, List.length_take, List.length_drop]; omega) | (simp; done))) [] (by kernel_rfl) (Lend.nil _) ?_)
  rintro _ _ ⟨zs12, rfl, rfl, hp13, hp14⟩
  refine RunR.step (dst := some 5) (op := .alloc 27) (by kernel_rfl) (Step.alloc hU 5 40 (.agg #[.int .u64 0, .int .u64 0, .int .u64 0, .int .u64 0, .int .u64 0]) rfl (by kernel_rfl) (fun b15 => ?_))
  have hl16 : (List.replicate 5 (0 : Int)).length = 5 := List.length_replicate
  refine RunR.step (dst := none) (op := .store 27 (.tmp 5) (.tmp 14)) (by kernel_rfl) (Step.store_seg hU 0 b15 (0) 27 (nums .u64 (List.replicate 5 (0 : Int))) (nums .u64 zs12) (nums .u64 zs12) (.agg (nums .u64 zs12).toArray) (by kernel_rfl) (by kernel_rfl) (by kernel_rfl) 5 (by kernel_rfl) (by kernel_rfl) (by first | rfl | (simp only [List.length_append, nums_length, List.length_cons, List.length_nil, List.length_replicate]; omega) | (simp [nums_length, *])) (by simp only [List.all_append, all_one_nums, Bool.true_and, Bool.and_true] <;> rfl) (show Put _ 0 _ _ from Put.all (by simp only [List.length_append, nums_length, List.length_cons, List.length_nil, List.length_replicate] <;> omega)) ?_)
  refine RunR.done (by kernel_rfl) ?_
  refine kseq_n ?_
  refine RunC.seq ?_
  refine RunC.region ?_
  refine RunR.step (dst := some 15) (op := .call { callee := .value (.func 37), args := #[.const (.int .u32 1)], argTypes := #[49] }) (by kernel_rfl) (Step.call 37 [.int .u32 1] (by kernel_rfl) (by kernel_rfl) [] [] [blk b15 27 (nums .u64 zs12), blk b10 31 (nums .i64 zs7), blk b5 27 (nums .u64 zs2), blk b1 48 (nums .u8 xs)] (n_Small_spec 1 (by first | assumption | exact fits_wrap _ _ | exact fits_bits2 _ _ _ _ | (refine ⟨?_, ?_⟩ <;> omega))) [] (by kernel_rfl) (Lend.nil _) ?_)
  rintro _ _ ⟨zs17, rfl, rfl, hp18, hp19⟩
  refine RunR.step (dst := some 6) (op := .alloc 31) (by kernel_rfl) (Step.alloc hU 32 256 (.agg #[.int .i64 0, .int .i64 0, .int .i64 0, .int .i64 0, .int .i64 0, .int .i64 0, .int .i64 0, .int .i64 0, .int .i64 0, .int .i64 0, .int .i64 0, .int .i64 0, .int .i64 0, .int .i64 0, .int .i64 0, .int .i64 0, .int .i64 0, .int .i64 0, .int .i64 0, .int .i64 0, .int .i64 0, .int .i64 0, .int .i64 0, .int .i64 0, .int .i64 0, .int .i64 0, .int .i64 0, .int .i64 0, .int .i64 0, .int .i64 0, .int .i64 0, .int .i64 0]) rfl (by kernel_rfl) (fun b20 => ?_))
  have hl21 : (List.replicate 32 (0 : Int)).length = 32 := List.length_replicate
  refine RunR.step (dst := none) (op := .store 31 (.tmp 6) (.tmp 15)) (by kernel_rfl) (Step.store_arr hU 0 b20 31 32 .i64 (List.replicate 32 (0 : Int)) zs17 (by kernel_rfl) (by kernel_rfl) (by kernel_rfl) (by kernel_rfl) (by first | rfl | omega | (simp; done)) (by first | rfl | omega | (simp; done)) ?_)
  refine RunR.done (by kernel_rfl) ?_
  refine kseq_n ?_
  refine RunC.seq ?_
  refine RunC.seq ?_
  refine RunC.regionU hU 3 [blk b10 31 (nums .i64 zs7)] [2] [2] (bm 3 0) (by kernel_rfl) (by kernel_rfl) (by kernel_rfl) ?_
  refine RunU.read 0 (bm 3 1) 16 (.load 31 (.tmp 4)) (.agg (nums .i64 zs7).toArray) [2] (by kernel_rfl) (Reads.load_arr hU 0 b10 31 32 .i64 zs7 (by kernel_rfl) (by kernel_rfl) (by kernel_rfl) (by kernel_rfl) (by first | rfl | omega | (simp; done))) (by kernel_rfl) (by kernel_rfl) (by kernel_rfl) (by kernel_rfl) (fun _ _ _ h => h) ?_
  refine RunU.one (dst := some 17) (op := .call { callee := .value (.func 37), args := #[.const (.int .u32 0)], argTypes := #[49] }) 1 (bm 3 3) [2] (by kernel_rfl) (by kernel_rfl) (Step.call 37 [.int .u32 0] (by kernel_rfl) (by kernel_rfl) [] [] [blk b20 31 (nums .i64 zs17), blk b15 27 (nums .u64 zs12), blk b10 31 (nums .i64 zs7), blk b5 27 (nums .u64 zs2), blk b1 48 (nums .u8 xs)] (n_Small_spec 0 (by first | assumption | exact fits_wrap _ _ | exact fits_bits2 _ _ _ _ | (refine ⟨?_, ?_⟩ <;> omega))) [] (by kernel_rfl) (Lend.nil _) ?_)
  rintro _ _ ⟨zs22, rfl, rfl, hp23, hp24⟩
  refine ⟨.inl (by kernel_rfl), ?_⟩
  refine RunU.one (dst := some 18) (op := .binOp .eql 31 (.tmp 16) (.tmp 17) 31) 2 (bm 3 7) [] (by kernel_rfl) (by kernel_rfl) (Step.arr_eql hU (e := 3) 32 8 .i64 .i64 .i64 zs7 zs22 (by kernel_rfl) (by kernel_rfl) (by kernel_rfl) (by kernel_rfl) (by kernel_rfl) (by first | assumption | rfl | omega | (simp; done)) (by first | assumption | rfl | omega | (simp; done)) (by kernel_rfl) ?_)
  refine ⟨.inr (by kernel_rfl), ?_⟩
  refine RunU.env [2, 3, 4, 5, 6, 18] [(2, .bool false), (3, .pointer (some ⟨b5, 0, none⟩)), (4, .pointer (some ⟨b10, 0, none⟩)), (5, .pointer (some ⟨b15, 0, none⟩)), (6, .pointer (some ⟨b20, 0, none⟩)), (18, .bool (decide (zs7 = zs22)))] (by kernel_rfl) ?_
  refine RunU.done (by kernel_rfl) ?_
  refine kseq_n ?_
  refine RunC.condp (zs7 = zs22) (by kernel_rfl) (fun h25 => ?_) (fun h25 => ?_)
  · skip
    refine RunC.region ?_
    refine RunR.step (dst := some 19) (op := .load 31 (.tmp 4)) (by kernel_rfl) (Step.load_arr hU 2 b10 31 32 .i64 zs7 (by kernel_rfl) (by kernel_rfl) (by kernel_rfl) (by kernel_rfl) (by first | rfl | omega | (simp; done)) (by kernel_rfl) ?_)
    refine RunR.step (dst := none) (op := .store 31 (.tmp 6) (.tmp 19)) (by kernel_rfl) (Step.store_arr hU 0 b20 31 32 .i64 zs17 zs7 (by kernel_rfl) (by kernel_rfl) (by kernel_rfl) (by kernel_rfl) (by first | rfl | omega | (simp; done)) (by first | rfl | omega | (simp; done)) ?_)
    refine RunR.done (by kernel_rfl) ?_
    refine kseq_n ?_
    refine RunC.seq ?_
    refine RunC.regionU hU 12 [blk b15 27 (nums .u64 zs12), blk b10 31 (nums .i64 zs7), blk b5 27 (nums .u64 zs2), blk b20 31 (nums .i64 zs7)] [1, 2, 3, 0] [9, 11] (bm 12 0) (by kernel_rfl) (by kernel_rfl) (by kernel_rfl) ?_
    refine RunU.read 0 (bm 12 1) 20 (.load 27 (.tmp 5)) (.agg (nums .u64 zs12).toArray) [1, 2, 3, 0] (by kernel_rfl) (Reads.load_blk hU 0 b15 (0) 27 (nums .u64 zs12) (.agg (nums .u64 zs12).toArray) (by kernel_rfl) (by kernel_rfl) (loadv_seg (n := 5) (by kernel_rfl) (by kernel_rfl) (Seg.all _) (by simp only [List.length_append, nums_length, List.length_cons, List.length_nil] <;> omega))) (by kernel_rfl) (by kernel_rfl) (by kernel_rfl) (by kernel_rfl) (fun _ _ _ h => h) ?_
    refine RunU.read 1 (bm 12 3) 21 (.load 31 (.tmp 4)) (.agg (nums .i64 zs7).toArray) [1, 2, 3, 0] (by kernel_rfl) (Reads.load_arr hU 1 b10 31 32 .i64 zs7 (by kernel_rfl) (by kernel_rfl) (by kernel_rfl) (by kernel_rfl) (by first | rfl | omega | (simp; done))) (by kernel_rfl) (by kernel_rfl) (by kernel_rfl) (by kernel_rfl) (fun _ _ _ h => h) ?_
    refine RunU.one (dst := some 22) (op := .call { callee := .value (.func 39), args := #[.tmp 21], argTypes := #[31] }) 2 (bm 12 7) [1, 2, 3, 0] (by kernel_rfl) (by kernel_rfl) (Step.call 39 [.agg (nums .i64 zs7).toArray] (by kernel_rfl) (by kernel_rfl) [] [] [blk b20 31 (nums .i64 zs7), blk b15 27 (nums .u64 zs12), blk b10 31 (nums .i64 zs7), blk b5 27 (nums .u64 zs2), blk b1 48 (nums .u8 xs)] (n_Invert_spec zs7 (fromV xs % P) (by assumption) (by first | rfl | assumption | omega | (simp only [List.length_append, List.length_cons, List.length_nil, List.length_set, List.length_replicate, List.length_take, List.length_drop]; omega) | (simp; done)) (by exact Int.emod_lt_of_pos _ (by decide))) [] (by kernel_rfl) (Lend.nil _) ?_)
    rintro _ _ ⟨zs26, rfl, rfl, hp27, hp28⟩
    refine ⟨.inl (by kernel_rfl), ?_⟩
    refine RunU.one (dst := some 23) (op := .call { callee := .value (.func 15), args := #[.tmp 20, .tmp 22], argTypes := #[27, 31] }) 3 (bm 12 15) [1, 2, 3, 0] (by kernel_rfl) (by kernel_rfl) (Step.call 15 [.agg (nums .u64 zs12).toArray, .agg (nums .i64 zs26).toArray] (by kernel_rfl) (by kernel_rfl) [] [] [blk b20 31 (nums .i64 zs7), blk b15 27 (nums .u64 zs12), blk b10 31 (nums .i64 zs7), blk b5 27 (nums .u64 zs2), blk b1 48 (nums .u8 xs)] (l7_same_spec zs12 (pw (fromV xs % P) EN) zs26 (pw (fromV xs % P) EN) (by first | assumption | omega | (simp only [List.length_append, List.length_cons, List.length_nil, List.length_set, List.length_replicate, List.length_take, List.length_drop]; omega) | (simp only [fits] at *; omega) | (simp only [List.length_append, List.length_cons, List.length_nil, List.length_set, List.length_replicate, List.length_take, List.length_drop] at *; omega) | (simp; done) | decide) (by first | rfl | assumption | omega | (simp only [List.length_append, List.length_cons, List.length_nil, List.length_set, List.length_replicate, List.length_take, List.length_drop]; omega) | (simp; done)) (by assumption) (by first | rfl | assumption | omega | (simp only [List.length_append, List.length_cons, List.length_nil, List.length_set, List.length_replicate, List.length_take, List.length_drop]; omega) | (simp; done))) [] (by kernel_rfl) (Lend.nil _) ?_)
    rintro _ _ ⟨rfl, rfl⟩
    refine ⟨.inl (by kernel_rfl), ?_⟩
    refine RunU.sil hU false 4 (bm 12 31) 24 (.bool (decide ((pw (fromV xs % P) EN) = (pw (fromV xs % P) EN)))) (True) (by kernel_rfl) trivial (by kernel_rfl) (by kernel_rfl) (fun _ _ _ h => h) ?_
    refine RunU.env [2, 3, 4, 5, 6, 18, 19, 20, 21, 22, 23, 24] [(2, .bool false), (3, .pointer (some ⟨b5, 0, none⟩)), (4, .pointer (some ⟨b10, 0, none⟩)), (5, .pointer (some ⟨b15, 0, none⟩)), (6, .pointer (some ⟨b20, 0, none⟩)), (18, .bool (decide (zs7 = zs22))), (19, .agg (nums .i64 zs7).toArray), (20, .agg (nums .u64 zs12).toArray), (21, .agg (nums .i64 zs7).toArray), (22, .agg (nums .i64 zs26).toArray), (23, .bool (decide ((pw (fromV xs % P) EN) = (pw (fromV xs % P) EN)))), (24, .bool (decide ((pw (fromV xs % P) EN) = (pw (fromV xs % P) EN))))] (by kernel_rfl) ?_
    have hk29 : ((pw (fromV xs % P) EN) = (pw (fromV xs % P) EN)) := by rfl
    refine RunU.enveq [(2, .bool false), (3, .pointer (some ⟨b5, 0, none⟩)), (4, .pointer (some ⟨b10, 0, none⟩)), (5, .pointer (some ⟨b15, 0, none⟩)), (6, .pointer (some ⟨b20, 0, none⟩)), (18, .bool (decide (zs7 = zs22))), (19, .agg (nums .i64 zs7).toArray), (20, .agg (nums .u64 zs12).toArray), (21, .agg (nums .i64 zs7).toArray), (22, .agg (nums .i64 zs26).toArray), (23, .bool true), (24, .bool true)] (by rw [decide_eq_true hk29]; try rfl) ?_
    refine RunU.read 5 (bm 12 63) 25 (.load 27 (.tmp 3)) (.agg (nums .u64 zs2).toArray) [1, 2, 3, 0] (by kernel_rfl) (Reads.load_blk hU 2 b5 (0) 27 (nums .u64 zs2) (.agg (nums .u64 zs2).toArray) (by kernel_rfl) (by kernel_rfl) (loadv_seg (n := 5) (by kernel_rfl) (by kernel_rfl) (Seg.all _) (by simp only [List.length_append, nums_length, List.length_cons, List.length_nil] <;> omega))) (by kernel_rfl) (by kernel_rfl) (by kernel_rfl) (by kernel_rfl) (fun _ _ _ h => h) ?_
    refine RunU.read 6 (bm 12 127) 26 (.load 27 (.tmp 5)) (.agg (nums .u64 zs12).toArray) [1, 2, 3, 0] (by kernel_rfl) (Reads.load_blk hU 0 b15 (0) 27 (nums .u64 zs12) (.agg (nums .u64 zs12).toArray) (by kernel_rfl) (by kernel_rfl) (loadv_seg (n := 5) (by kernel_rfl) (by kernel_rfl) (Seg.all _) (by simp only [List.length_append, nums_length, List.length_cons, List.length_nil] <;> omega))) (by kernel_rfl) (by kernel_rfl) (by kernel_rfl) (by kernel_rfl) (fun _ _ _ h => h) ?_
    refine RunU.read 8 (bm 12 383) 28 (.load 31 (.tmp 6)) (.agg (nums .i64 zs7).toArray) [1, 2, 3, 0] (by kernel_rfl) (Reads.load_arr hU 3 b20 31 32 .i64 zs7 (by kernel_rfl) (by kernel_rfl) (by kernel_rfl) (by kernel_rfl) (by first | rfl | omega | (simp; done))) (by kernel_rfl) (by kernel_rfl) (by kernel_rfl) (by kernel_rfl) (fun _ _ _ h => h) ?_
    refine RunU.one (dst := some 27) (op := .call { callee := .value (.func 33), args := #[.tmp 25, .tmp 26], argTypes := #[27, 27] }) 7 (bm 12 511) [1, 2, 3, 0] (by kernel_rfl) (by kernel_rfl) (Step.call 33 [.agg (nums .u64 zs2).toArray, .agg (nums .u64 zs12).toArray] (by kernel_rfl) (by kernel_rfl) [] [] [blk b20 31 (nums .i64 zs7), blk b15 27 (nums .u64 zs12), blk b10 31 (nums .i64 zs7), blk b5 27 (nums .u64 zs2), blk b1 48 (nums .u8 xs)] (f_Mul_spec zs2 (fromV xs % P) zs12 (pw (fromV xs % P) EN) (by first | assumption | omega | (simp only [List.length_append, List.length_cons, List.length_nil, List.length_set, List.length_replicate, List.length_take, List.length_drop]; omega) | (simp only [fits] at *; omega) | (simp only [List.length_append, List.length_cons, List.length_nil, List.length_set, List.length_replicate, List.length_take, List.length_drop] at *; omega) | (simp; done) | decide) (by first | rfl | assumption | omega | (simp only [List.length_append, List.length_cons, List.length_nil, List.length_set, List.length_replicate, List.length_take, List.length_drop]; omega) | (simp; done)) (by first | assumption | omega | (simp only [List.length_append, List.length_cons, List.length_nil, List.length_set, List.length_replicate, List.length_take, List.length_drop]; omega) | (simp only [fits] at *; omega) | (simp only [List.length_append, List.length_cons, List.length_nil, List.length_set, List.length_replicate, List.length_take, List.length_drop] at *; omega) | (simp; done) | decide) (by first | rfl | assumption | omega | (simp only [List.length_append, List.length_cons, List.length_nil, List.length_set, List.length_replicate, List.length_take, List.length_drop]; omega) | (simp; done))) [] (by kernel_rfl) (Lend.nil _) ?_)
    rintro _ _ ⟨zs30, rfl, rfl, hp31, hp32⟩
    refine ⟨.inl (by kernel_rfl), ?_⟩
    refine RunU.one (dst := some 29) (op := .call { callee := .value (.func 15), args := #[.tmp 27, .tmp 28], argTypes := #[27, 31] }) 9 (bm 12 1023) [] (by kernel_rfl) (by kernel_rfl) (Step.call 15 [.agg (nums .u64 zs30).toArray, .agg (nums .i64 zs7).toArray] (by kernel_rfl) (by kernel_rfl) [] [] [blk b20 31 (nums .i64 zs7), blk b15 27 (nums .u64 zs12), blk b10 31 (nums .i64 zs7), blk b5 27 (nums .u64 zs2), blk b1 48 (nums .u8 xs)] (l7_same_spec zs30 (((fromV xs % P) * (pw (fromV xs % P) EN)) % P) zs7 (fromV xs % P) (by first | assumption | omega | (simp only [List.length_append, List.length_cons, List.length_nil, List.length_set, List.length_replicate, List.length_take, List.length_drop]; omega) | (simp only [fits] at *; omega) | (simp only [List.length_append, List.length_cons, List.length_nil, List.length_set, List.length_replicate, List.length_take, List.length_drop] at *; omega) | (simp; done) | decide) (by first | rfl | assumption | omega | (simp only [List.length_append, List.length_cons, List.length_nil, List.length_set, List.length_replicate, List.length_take, List.length_drop]; omega) | (simp; done)) (by assumption) (by first | rfl | assumption | omega | (simp only [List.length_append, List.length_cons, List.length_nil, List.length_set, List.length_replicate, List.length_take, List.length_drop]; omega) | (simp; done))) [] (by kernel_rfl) (Lend.nil _) ?_)
    rintro _ _ ⟨rfl, rfl⟩
    refine ⟨.inr (by kernel_rfl), ?_⟩
    refine RunU.sil hU false 10 (bm 12 2047) 30 (.bool (decide ((((fromV xs % P) * (pw (fromV xs % P) EN)) % P) = (fromV xs % P)))) (True) (by kernel_rfl) trivial (by kernel_rfl) (by kernel_rfl) (fun _ _ _ h => h) ?_
    refine RunU.sil hU false 11 (bm 12 4095) 2 (.bool (decide ((((fromV xs % P) * (pw (fromV xs % P) EN)) % P) = (fromV xs % P)))) (True) (by kernel_rfl) trivial (by kernel_rfl) (by kernel_rfl) (fun _ _ _ h => h) ?_
    refine RunU.env [2, 3, 4, 5, 6, 18, 19, 20, 21, 22, 23, 24, 25, 26, 27, 28, 29, 30] [(2, .bool (decide ((((fromV xs % P) * (pw (fromV xs % P) EN)) % P) = (fromV xs % P)))), (3, .pointer (some ⟨b5, 0, none⟩)), (4, .pointer (some ⟨b10, 0, none⟩)), (5, .pointer (some ⟨b15, 0, none⟩)), (6, .pointer (some ⟨b20, 0, none⟩)), (18, .bool (decide (zs7 = zs22))), (19, .agg (nums .i64 zs7).toArray), (20, .agg (nums .u64 zs12).toArray), (21, .agg (nums .i64 zs7).toArray), (22, .agg (nums .i64 zs26).toArray), (23, .bool true), (24, .bool true), (25, .agg (nums .u64 zs2).toArray), (26, .agg (nums .u64 zs12).toArray), (27, .agg (nums .u64 zs30).toArray), (28, .agg (nums .i64 zs7).toArray), (29, .bool (decide ((((fromV xs % P) * (pw (fromV xs % P) EN)) % P) = (fromV xs % P)))), (30, .bool (decide ((((fromV xs % P) * (pw (fromV xs % P) EN)) % P) = (fromV xs % P))))] (by kernel_rfl) ?_
    have hk33 : ((((fromV xs % P) * (pw (fromV xs % P) EN)) % P) = (fromV xs % P)) := by have h0_ := (Dg.inj hp8 hp23).1 (by assumption); rw [h0_, Int.zero_mul]; exact Int.zero_emod _
    refine RunU.enveq [(2, .bool true), (3, .pointer (some ⟨b5, 0, none⟩)), (4, .pointer (some ⟨b10, 0, none⟩)), (5, .pointer (some ⟨b15, 0, none⟩)), (6, .pointer (some ⟨b20, 0, none⟩)), (18, .bool (decide (zs7 = zs22))), (19, .agg (nums .i64 zs7).toArray), (20, .agg (nums .u64 zs12).toArray), (21, .agg (nums .i64 zs7).toArray), (22, .agg (nums .i64 zs26).toArray), (23, .bool true), (24, .bool true), (25, .agg (nums .u64 zs2).toArray), (26, .agg (nums .u64 zs12).toArray), (27, .agg (nums .u64 zs30).toArray), (28, .agg (nums .i64 zs7).toArray), (29, .bool true), (30, .bool true)] (by rw [decide_eq_true hk33]; try rfl) ?_
    refine RunU.env [2] [(2, .bool true)] (by kernel_rfl) ?_
    refine RunU.done (by kernel_rfl) ?_
    refine kseq_n ?_
    refine RunC.ret ?_
    refine kret_r [.bool true] [] [] ⟨rfl, trivial⟩ (by kernel_rfl) rfl ⟨rfl, rfl⟩
  · skip
    refine RunC.skip ?_
    refine kseq_n ?_
    refine RunC.seq ?_
    refine RunC.regionU hU 12 [blk b15 27 (nums .u64 zs12), blk b10 31 (nums .i64 zs7), blk b5 27 (nums .u64 zs2), blk b20 31 (nums .i64 zs17)] [1, 2, 3, 0] [9, 11] (bm 12 0) (by kernel_rfl) (by kernel_rfl) (by kernel_rfl) ?_
    refine RunU.read 0 (bm 12 1) 20 (.load 27 (.tmp 5)) (.agg (nums .u64 zs12).toArray) [1, 2, 3, 0] (by kernel_rfl) (Reads.load_blk hU 0 b15 (0) 27 (nums .u64 zs12) (.agg (nums .u64 zs12).toArray) (by kernel_rfl) (by kernel_rfl) (loadv_seg (n := 5) (by kernel_rfl) (by kernel_rfl) (Seg.all _) (by simp only [List.length_append, nums_length, List.length_cons, List.length_nil] <;> omega))) (by kernel_rfl) (by kernel_rfl) (by kernel_rfl) (by kernel_rfl) (fun _ _ _ h => h) ?_
    refine RunU.read 1 (bm 12 3) 21 (.load 31 (.tmp 4)) (.agg (nums .i64 zs7).toArray) [1, 2, 3, 0] (by kernel_rfl) (Reads.load_arr hU 1 b10 31 32 .i64 zs7 (by kernel_rfl) (by kernel_rfl) (by kernel_rfl) (by kernel_rfl) (by first | rfl | omega | (simp; done))) (by kernel_rfl) (by kernel_rfl) (by kernel_rfl) (by kernel_rfl) (fun _ _ _ h => h) ?_
    refine RunU.one (dst := some 22) (op := .call { callee := .value (.func 39), args := #[.tmp 21], argTypes := #[31] }) 2 (bm 12 7) [1, 2, 3, 0] (by kernel_rfl) (by kernel_rfl) (Step.call 39 [.agg (nums .i64 zs7).toArray] (by kernel_rfl) (by kernel_rfl) [] [] [blk b20 31 (nums .i64 zs17), blk b15 27 (nums .u64 zs12), blk b10 31 (nums .i64 zs7), blk b5 27 (nums .u64 zs2), blk b1 48 (nums .u8 xs)] (n_Invert_spec zs7 (fromV xs % P) (by assumption) (by first | rfl | assumption | omega | (simp only [List.length_append, List.length_cons, List.length_nil, List.length_set, List.length_replicate, List.length_take, List.length_drop]; omega) | (simp; done)) (by exact Int.emod_lt_of_pos _ (by decide))) [] (by kernel_rfl) (Lend.nil _) ?_)
    rintro _ _ ⟨zs34, rfl, rfl, hp35, hp36⟩
    refine ⟨.inl (by kernel_rfl), ?_⟩
    refine RunU.one (dst := some 23) (op := .call { callee := .value (.func 15), args := #[.tmp 20, .tmp 22], argTypes := #[27, 31] }) 3 (bm 12 15) [1, 2, 3, 0] (by kernel_rfl) (by kernel_rfl) (Step.call 15 [.agg (nums .u64 zs12).toArray, .agg (nums .i64 zs34).toArray] (by kernel_rfl) (by kernel_rfl) [] [] [blk b20 31 (nums .i64 zs17), blk b15 27 (nums .u64 zs12), blk b10 31 (nums .i64 zs7), blk b5 27 (nums .u64 zs2), blk b1 48 (nums .u8 xs)] (l7_same_spec zs12 (pw (fromV xs % P) EN) zs34 (pw (fromV xs % P) EN) (by first | assumption | omega | (simp only [List.length_append, List.length_cons, List.length_nil, List.length_set, List.length_replicate, List.length_take, List.length_drop]; omega) | (simp only [fits] at *; omega) | (simp only [List.length_append, List.length_cons, List.length_nil, List.length_set, List.length_replicate, List.length_take, List.length_drop] at *; omega) | (simp; done) | decide) (by first | rfl | assumption | omega | (simp only [List.length_append, List.length_cons, List.length_nil, List.length_set, List.length_replicate, List.length_take, List.length_drop]; omega) | (simp; done)) (by assumption) (by first | rfl | assumption | omega | (simp only [List.length_append, List.length_cons, List.length_nil, List.length_set, List.length_replicate, List.length_take, List.length_drop]; omega) | (simp; done))) [] (by kernel_rfl) (Lend.nil _) ?_)
    rintro _ _ ⟨rfl, rfl⟩
    refine ⟨.inl (by kernel_rfl), ?_⟩
    refine RunU.sil hU false 4 (bm 12 31) 24 (.bool (decide ((pw (fromV xs % P) EN) = (pw (fromV xs % P) EN)))) (True) (by kernel_rfl) trivial (by kernel_rfl) (by kernel_rfl) (fun _ _ _ h => h) ?_
    refine RunU.env [2, 3, 4, 5, 6, 18, 20, 21, 22, 23, 24] [(2, .bool false), (3, .pointer (some ⟨b5, 0, none⟩)), (4, .pointer (some ⟨b10, 0, none⟩)), (5, .pointer (some ⟨b15, 0, none⟩)), (6, .pointer (some ⟨b20, 0, none⟩)), (18, .bool (decide (zs7 = zs22))), (20, .agg (nums .u64 zs12).toArray), (21, .agg (nums .i64 zs7).toArray), (22, .agg (nums .i64 zs34).toArray), (23, .bool (decide ((pw (fromV xs % P) EN) = (pw (fromV xs % P) EN)))), (24, .bool (decide ((pw (fromV xs % P) EN) = (pw (fromV xs % P) EN))))] (by kernel_rfl) ?_
    have hk37 : ((pw (fromV xs % P) EN) = (pw (fromV xs % P) EN)) := by rfl
    refine RunU.enveq [(2, .bool false), (3, .pointer (some ⟨b5, 0, none⟩)), (4, .pointer (some ⟨b10, 0, none⟩)), (5, .pointer (some ⟨b15, 0, none⟩)), (6, .pointer (some ⟨b20, 0, none⟩)), (18, .bool (decide (zs7 = zs22))), (20, .agg (nums .u64 zs12).toArray), (21, .agg (nums .i64 zs7).toArray), (22, .agg (nums .i64 zs34).toArray), (23, .bool true), (24, .bool true)] (by rw [decide_eq_true hk37]; try rfl) ?_
    refine RunU.read 5 (bm 12 63) 25 (.load 27 (.tmp 3)) (.agg (nums .u64 zs2).toArray) [1, 2, 3, 0] (by kernel_rfl) (Reads.load_blk hU 2 b5 (0) 27 (nums .u64 zs2) (.agg (nums .u64 zs2).toArray) (by kernel_rfl) (by kernel_rfl) (loadv_seg (n := 5) (by kernel_rfl) (by kernel_rfl) (Seg.all _) (by simp only [List.length_append, nums_length, List.length_cons, List.length_nil] <;> omega))) (by kernel_rfl) (by kernel_rfl) (by kernel_rfl) (by kernel_rfl) (fun _ _ _ h => h) ?_
    refine RunU.read 6 (bm 12 127) 26 (.load 27 (.tmp 5)) (.agg (nums .u64 zs12).toArray) [1, 2, 3, 0] (by kernel_rfl) (Reads.load_blk hU 0 b15 (0) 27 (nums .u64 zs12) (.agg (nums .u64 zs12).toArray) (by kernel_rfl) (by kernel_rfl) (loadv_seg (n := 5) (by kernel_rfl) (by kernel_rfl) (Seg.all _) (by simp only [List.length_append, nums_length, List.length_cons, List.length_nil] <;> omega))) (by kernel_rfl) (by kernel_rfl) (by kernel_rfl) (by kernel_rfl) (fun _ _ _ h => h) ?_
    refine RunU.read 8 (bm 12 383) 28 (.load 31 (.tmp 6)) (.agg (nums .i64 zs17).toArray) [1, 2, 3, 0] (by kernel_rfl) (Reads.load_arr hU 3 b20 31 32 .i64 zs17 (by kernel_rfl) (by kernel_rfl) (by kernel_rfl) (by kernel_rfl) (by first | rfl | omega | (simp; done))) (by kernel_rfl) (by kernel_rfl) (by kernel_rfl) (by kernel_rfl) (fun _ _ _ h => h) ?_
    refine RunU.one (dst := some 27) (op := .call { callee := .value (.func 33), args := #[.tmp 25, .tmp 26], argTypes := #[27, 27] }) 7 (bm 12 511) [1, 2, 3, 0] (by kernel_rfl) (by kernel_rfl) (Step.call 33 [.agg (nums .u64 zs2).toArray, .agg (nums .u64 zs12).toArray] (by kernel_rfl) (by kernel_rfl) [] [] [blk b20 31 (nums .i64 zs17), blk b15 27 (nums .u64 zs12), blk b10 31 (nums .i64 zs7), blk b5 27 (nums .u64 zs2), blk b1 48 (nums .u8 xs)] (f_Mul_spec zs2 (fromV xs % P) zs12 (pw (fromV xs % P) EN) (by first | assumption | omega | (simp only [List.length_append, List.length_cons, List.length_nil, List.length_set, List.length_replicate, List.length_take, List.length_drop]; omega) | (simp only [fits] at *; omega) | (simp only [List.length_append, List.length_cons, List.length_nil, List.length_set, List.length_replicate, List.length_take, List.length_drop] at *; omega) | (simp; done) | decide) (by first | rfl | assumption | omega | (simp only [List.length_append, List.length_cons, List.length_nil, List.length_set, List.length_replicate, List.length_take, List.length_drop]; omega) | (simp; done)) (by first | assumption | omega | (simp only [List.length_append, List.length_cons, List.length_nil, List.length_set, List.length_replicate, List.length_take, List.length_drop]; omega) | (simp only [fits] at *; omega) | (simp only [List.length_append, List.length_cons, List.length_nil, List.length_set, List.length_replicate, List.length_take, List.length_drop] at *; omega) | (simp; done) | decide) (by first | rfl | assumption | omega | (simp only [List.length_append, List.length_cons, List.length_nil, List.length_set, List.length_replicate, List.length_take, List.length_drop]; omega) | (simp; done))) [] (by kernel_rfl) (Lend.nil _) ?_)
    rintro _ _ ⟨zs38, rfl, rfl, hp39, hp40⟩
    refine ⟨.inl (by kernel_rfl), ?_⟩
    refine RunU.one (dst := some 29) (op := .call { callee := .value (.func 15), args := #[.tmp 27, .tmp 28], argTypes := #[27, 31] }) 9 (bm 12 1023) [] (by kernel_rfl) (by kernel_rfl) (Step.call 15 [.agg (nums .u64 zs38).toArray, .agg (nums .i64 zs17).toArray] (by kernel_rfl) (by kernel_rfl) [] [] [blk b20 31 (nums .i64 zs17), blk b15 27 (nums .u64 zs12), blk b10 31 (nums .i64 zs7), blk b5 27 (nums .u64 zs2), blk b1 48 (nums .u8 xs)] (l7_same_spec zs38 (((fromV xs % P) * (pw (fromV xs % P) EN)) % P) zs17 1 (by first | assumption | omega | (simp only [List.length_append, List.length_cons, List.length_nil, List.length_set, List.length_replicate, List.length_take, List.length_drop]; omega) | (simp only [fits] at *; omega) | (simp only [List.length_append, List.length_cons, List.length_nil, List.length_set, List.length_replicate, List.length_take, List.length_drop] at *; omega) | (simp; done) | decide) (by first | rfl | assumption | omega | (simp only [List.length_append, List.length_cons, List.length_nil, List.length_set, List.length_replicate, List.length_take, List.length_drop]; omega) | (simp; done)) (by assumption) (by first | rfl | assumption | omega | (simp only [List.length_append, List.length_cons, List.length_nil, List.length_set, List.length_replicate, List.length_take, List.length_drop]; omega) | (simp; done))) [] (by kernel_rfl) (Lend.nil _) ?_)
    rintro _ _ ⟨rfl, rfl⟩
    refine ⟨.inr (by kernel_rfl), ?_⟩
    refine RunU.sil hU false 10 (bm 12 2047) 30 (.bool (decide ((((fromV xs % P) * (pw (fromV xs % P) EN)) % P) = 1))) (True) (by kernel_rfl) trivial (by kernel_rfl) (by kernel_rfl) (fun _ _ _ h => h) ?_
    refine RunU.sil hU false 11 (bm 12 4095) 2 (.bool (decide ((((fromV xs % P) * (pw (fromV xs % P) EN)) % P) = 1))) (True) (by kernel_rfl) trivial (by kernel_rfl) (by kernel_rfl) (fun _ _ _ h => h) ?_
    refine RunU.env [2, 3, 4, 5, 6, 18, 20, 21, 22, 23, 24, 25, 26, 27, 28, 29, 30] [(2, .bool (decide ((((fromV xs % P) * (pw (fromV xs % P) EN)) % P) = 1))), (3, .pointer (some ⟨b5, 0, none⟩)), (4, .pointer (some ⟨b10, 0, none⟩)), (5, .pointer (some ⟨b15, 0, none⟩)), (6, .pointer (some ⟨b20, 0, none⟩)), (18, .bool (decide (zs7 = zs22))), (20, .agg (nums .u64 zs12).toArray), (21, .agg (nums .i64 zs7).toArray), (22, .agg (nums .i64 zs34).toArray), (23, .bool true), (24, .bool true), (25, .agg (nums .u64 zs2).toArray), (26, .agg (nums .u64 zs12).toArray), (27, .agg (nums .u64 zs38).toArray), (28, .agg (nums .i64 zs17).toArray), (29, .bool (decide ((((fromV xs % P) * (pw (fromV xs % P) EN)) % P) = 1))), (30, .bool (decide ((((fromV xs % P) * (pw (fromV xs % P) EN)) % P) = 1)))] (by kernel_rfl) ?_
    have hk41 : ((((fromV xs % P) * (pw (fromV xs % P) EN)) % P) = 1) := by exact fermat ⟨Int.emod_nonneg _ (by decide), Int.emod_lt_of_pos _ (by decide)⟩ (fun h0_ => absurd ((Dg.inj hp8 hp23).2 h0_) (by assumption))
    refine RunU.enveq [(2, .bool true), (3, .pointer (some ⟨b5, 0, none⟩)), (4, .pointer (some ⟨b10, 0, none⟩)), (5, .pointer (some ⟨b15, 0, none⟩)), (6, .pointer (some ⟨b20, 0, none⟩)), (18, .bool (decide (zs7 = zs22))), (20, .agg (nums .u64 zs12).toArray), (21, .agg (nums .i64 zs7).toArray), (22, .agg (nums .i64 zs34).toArray), (23, .bool true), (24, .bool true), (25, .agg (nums .u64 zs2).toArray), (26, .agg (nums .u64 zs12).toArray), (27, .agg (nums .u64 zs38).toArray), (28, .agg (nums .i64 zs17).toArray), (29, .bool true), (30, .bool true)] (by rw [decide_eq_true hk41]; try rfl) ?_
    refine RunU.env [2] [(2, .bool true)] (by kernel_rfl) ?_
    refine RunU.done (by kernel_rfl) ?_
    refine kseq_n ?_
    refine RunC.ret ?_
    refine kret_r [.bool true] [] [] ⟨rfl, trivial⟩ (by kernel_rfl) rfl ⟨rfl, rfl⟩
end Go.Proofs.Ytbnjcfhnbjaoiaa.LFieldInverts
