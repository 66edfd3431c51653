/- What these functions compute: a contract for each, walked through its code. -/
import Derived.Test.YtbnjcfhnbjaoiaaEPure
import Derived.Test.YtbnjcfhnbjaoiaaProg
import Derived.Test.YtbnjcfhnbjaoiaaX1
import Derived.Test.YtbnjcfhnbjaoiaaX2
import Derived.Test.YtbnjcfhnbjaoiaaX3
import Derived.Test.YtbnjcfhnbjaoiaaX4
import Derived.Test.YtbnjcfhnbjaoiaaX5
import Derived.Test.YtbnjcfhnbjaoiaaX6
import Derived.Test.YtbnjcfhnbjaoiaaX7
import Derived.Test.YtbnjcfhnbjaoiaaX8
import Derived.Test.YtbnjcfhnbjaoiaaX9
import Derived.Test.YtbnjcfhnbjaoiaaY1
import Derived.Test.YtbnjcfhnbjaoiaaY2
import Derived.Test.YtbnjcfhnbjaoiaaY3
import Derived.Test.YtbnjcfhnbjaoiaaY4
import Derived.Test.YtbnjcfhnbjaoiaaY5
import Derived.Test.YtbnjcfhnbjaoiaaY6
namespace Go.Proofs.Ytbnjcfhnbjaoiaa.Y7
open Go Go.Proofs.Ytbnjcfhnbjaoiaa.SL Go.Proofs.Ytbnjcfhnbjaoiaa.SL.W Go.Proofs.Ytbnjcfhnbjaoiaa.SL.F Go.Proofs.Ytbnjcfhnbjaoiaa.SL.N Go.Proofs.Ytbnjcfhnbjaoiaa.SL.E Go.Proofs.Ytbnjcfhnbjaoiaa.X1 Go.Proofs.Ytbnjcfhnbjaoiaa.X2 Go.Proofs.Ytbnjcfhnbjaoiaa.X3 Go.Proofs.Ytbnjcfhnbjaoiaa.X4 Go.Proofs.Ytbnjcfhnbjaoiaa.X5 Go.Proofs.Ytbnjcfhnbjaoiaa.X6 Go.Proofs.Ytbnjcfhnbjaoiaa.X7 Go.Proofs.Ytbnjcfhnbjaoiaa.X8 Go.Proofs.Ytbnjcfhnbjaoiaa.X9 Go.Proofs.Ytbnjcfhnbjaoiaa.Y1 Go.Proofs.Ytbnjcfhnbjaoiaa.Y2 Go.Proofs.Ytbnjcfhnbjaoiaa.Y3 Go.Proofs.Ytbnjcfhnbjaoiaa.Y4 Go.Proofs.Ytbnjcfhnbjaoiaa.Y5 Go.Proofs.Ytbnjcfhnbjaoiaa.Y6
set_option linter.unusedVariables false
set_option linter.unusedSimpArgs false
set_option maxRecDepth 100000
set_option maxHeartbeats 40000000
def U : Tab where
  und := [(3, .int .i64), (24, .int .u64), (25, .array 5 24), (26, .struct #[{ name := "n", type := 25, offset := 0, embedded := false, tag := "", pkgPath := "orlop/field", byteOffset := 0 }]), (27, .struct #[{ name := "n", type := 25, offset := 0, embedded := false, tag := "", pkgPath := "orlop/field", byteOffset := 0 }]), (30, .array 32 3), (31, .array 32 3)]
  fld := [((26, 0), (0, 25)), ((27, 0), (0, 25))]
  sz := [(3, 1), (24, 1), (25, 5), (26, 5), (27, 5), (30, 32), (31, 32)]
  ti := [(3, (1, 8, .int .i64 0)), (24, (1, 8, .int .u64 0)), (25, (5, 40, .agg #[.int .u64 0, .int .u64 0, .int .u64 0, .int .u64 0, .int .u64 0])), (26, (5, 40, .agg #[.int .u64 0, .int .u64 0, .int .u64 0, .int .u64 0, .int .u64 0])), (27, (5, 40, .agg #[.int .u64 0, .int .u64 0, .int .u64 0, .int .u64 0, .int .u64 0])), (30, (32, 256, .agg #[.int .i64 0, .int .i64 0, .int .i64 0, .int .i64 0, .int .i64 0, .int .i64 0, .int .i64 0, .int .i64 0, .int .i64 0, .int .i64 0, .int .i64 0, .int .i64 0, .int .i64 0, .int .i64 0, .int .i64 0, .int .i64 0, .int .i64 0, .int .i64 0, .int .i64 0, .int .i64 0, .int .i64 0, .int .i64 0, .int .i64 0, .int .i64 0, .int .i64 0, .int .i64 0, .int .i64 0, .int .i64 0, .int .i64 0, .int .i64 0, .int .i64 0, .int .i64 0])), (31, (32, 256, .agg #[.int .i64 0, .int .i64 0, .int .i64 0, .int .i64 0, .int .i64 0, .int .i64 0, .int .i64 0, .int .i64 0, .int .i64 0, .int .i64 0, .int .i64 0, .int .i64 0, .int .i64 0, .int .i64 0, .int .i64 0, .int .i64 0, .int .i64 0, .int .i64 0, .int .i64 0, .int .i64 0, .int .i64 0, .int .i64 0, .int .i64 0, .int .i64 0, .int .i64 0, .int .i64 0, .int .i64 0, .int .i64 0, .int .i64 0, .int .i64 0, .int .i64 0, .int .i64 0]))]
  bld := [(26, [(0, 5)]), (27, [(0, 5)])]

theorem hU : U.OK Try.prog where
  und := by
    intro p hp
    simp only [U, List.mem_cons, List.not_mem_nil, or_false] at hp
    rcases hp with rfl | rfl | rfl | rfl | rfl | rfl | rfl
    · exact Try.underlying3
    · exact Try.underlying24
    · exact Try.underlying25
    · exact Try.underlying26
    · exact Try.underlying27
    · exact Try.underlying30
    · exact Try.underlying31
  fld := by
    intro p hp
    simp only [U, List.mem_cons, List.not_mem_nil, or_false] at hp
    rcases hp with rfl | rfl
    · exact ⟨_, _, Try.underlying26, rfl, rfl, rfl, Try.prog.types[25]!, by kernel_rfl, by decide +kernel⟩
    · exact ⟨_, _, Try.underlying27, rfl, rfl, rfl, Try.prog.types[25]!, by kernel_rfl, by decide +kernel⟩
  sz := by
    intro p hp
    simp only [U, List.mem_cons, List.not_mem_nil, or_false] at hp
    rcases hp with rfl | rfl | rfl | rfl | rfl | rfl | rfl
    · exact ⟨Try.prog.types[3]!, by kernel_rfl, by kernel_rfl⟩
    · exact ⟨Try.prog.types[24]!, by kernel_rfl, by kernel_rfl⟩
    · exact ⟨Try.prog.types[25]!, by kernel_rfl, by kernel_rfl⟩
    · exact ⟨Try.prog.types[26]!, by kernel_rfl, by kernel_rfl⟩
    · exact ⟨Try.prog.types[27]!, by kernel_rfl, by kernel_rfl⟩
    · exact ⟨Try.prog.types[30]!, by kernel_rfl, by kernel_rfl⟩
    · exact ⟨Try.prog.types[31]!, by kernel_rfl, by kernel_rfl⟩
  ti := by
    intro p hp
    simp only [U, List.mem_cons, List.not_mem_nil, or_false] at hp
    rcases hp with rfl | rfl | rfl | rfl | rfl | rfl | rfl
    · exact ⟨Try.prog.types[3]!, by kernel_rfl, by kernel_rfl, by kernel_rfl, by kernel_rfl⟩
    · exact ⟨Try.prog.types[24]!, by kernel_rfl, by kernel_rfl, by kernel_rfl, by kernel_rfl⟩
    · exact ⟨Try.prog.types[25]!, by kernel_rfl, by kernel_rfl, by kernel_rfl, by kernel_rfl⟩
    · exact ⟨Try.prog.types[26]!, by kernel_rfl, by kernel_rfl, by kernel_rfl, by kernel_rfl⟩
    · exact ⟨Try.prog.types[27]!, by kernel_rfl, by kernel_rfl, by kernel_rfl, by kernel_rfl⟩
    · exact ⟨Try.prog.types[30]!, by kernel_rfl, by kernel_rfl, by kernel_rfl, by kernel_rfl⟩
    · exact ⟨Try.prog.types[31]!, by kernel_rfl, by kernel_rfl, by kernel_rfl, by kernel_rfl⟩
  bld := by
    intro p hp
    simp only [U, List.mem_cons, List.not_mem_nil, or_false] at hp
    rcases hp with rfl | rfl
    · exact ⟨_, Try.underlying26, by kernel_rfl⟩
    · exact ⟨_, Try.underlying27, by kernel_rfl⟩
  mixed := by kernel_rfl

theorem l7_same_spec (xs : List Int) (v : Int) (ys : List Int) (w : Int) (hE : El xs v) (hl : xs.length = 5) (hY : Dg ys w) (hly : ys.length = 32) :
    CallsS Try.prog 15 [.agg (nums .u64 xs).toArray, .agg (nums .i64 ys).toArray] [] (fun r D => r = .bool (decide (v = w)) ∧ D = []) := by
  refine CallsS.enter hU Try.f15 _ [.tmp 4] 10 Try.func15 rfl (by decide) rfl rfl (by kernel_rfl) fun w0 W => ?_
  refine RunC.seq ?_
  refine RunC.region ?_
  refine RunR.step (dst := some 2) (op := .box 27 (.tmp 0)) (by kernel_rfl) (Step.box (.agg (nums .u64 xs).toArray) (by kernel_rfl) (by kernel_rfl) (fun b1 => ?_))
  refine RunR.step (dst := some 3) (op := .box 31 (.tmp 1)) (by kernel_rfl) (Step.box (.agg (nums .i64 ys).toArray) (by kernel_rfl) (by kernel_rfl) (fun b2 => ?_))
  refine RunR.sil hU [] 1 3 [2, 3, 4] [(2, .pointer (some ⟨b1, 0, none⟩)), (3, .pointer (some ⟨b2, 0, none⟩)), (4, .bool false)] ((True) ∧ True) rfl (by kernel_rfl) ⟨trivial, trivial⟩ ?_
  refine RunR.done (by kernel_rfl) ?_
  refine kseq_n ?_
  refine RunC.seq ?_
  refine RunC.regionU hU 6 [blk b1 27 (nums .u64 xs), blk b2 31 (nums .i64 ys)] [1, 0] [3, 4, 5] (bm 6 0) (by kernel_rfl) (by kernel_rfl) (by kernel_rfl) ?_
  refine RunU.read 0 (bm 6 1) 5 (.load 27 (.tmp 2)) (.agg (nums .u64 xs).toArray) [1, 0] (by kernel_rfl) (Reads.load_blk hU 0 b1 (0) 27 (nums .u64 xs) (.agg (nums .u64 xs).toArray) (by kernel_rfl) (by kernel_rfl) (loadv_seg (n := 5) (by kernel_rfl) (by kernel_rfl) (Seg.all _) (by simp only [List.length_append, nums_length, List.length_cons, List.length_nil] <;> omega))) (by kernel_rfl) (by kernel_rfl) (by kernel_rfl) (by kernel_rfl) (fun _ _ _ h => h) ?_
  refine RunU.read 2 (bm 6 5) 7 (.load 31 (.tmp 3)) (.agg (nums .i64 ys).toArray) [1, 0] (by kernel_rfl) (Reads.load_arr hU 1 b2 31 32 .i64 ys (by kernel_rfl) (by kernel_rfl) (by kernel_rfl) (by kernel_rfl) (by first | rfl | omega | (simp; done))) (by kernel_rfl) (by kernel_rfl) (by kernel_rfl) (by kernel_rfl) (fun _ _ _ h => h) ?_
  refine RunU.one (dst := some 6) (op := .call { callee := .value (.func 17), args := #[.tmp 5], argTypes := #[27] }) 1 (bm 6 7) [2, 1] (by kernel_rfl) (by kernel_rfl) (Step.call 17 [.agg (nums .u64 xs).toArray] (by kernel_rfl) (by kernel_rfl) [] [] [blk b2 31 (nums .i64 ys), blk b1 27 (nums .u64 xs)] (f_Bytes_spec xs v (by first | assumption | omega | (simp only [List.length_append, List.length_cons, List.length_nil, List.length_set, List.length_replicate, List.length_take, List.length_drop]; omega) | (simp only [fits] at *; omega) | (simp only [List.length_append, List.length_cons, List.length_nil, List.length_set, List.length_replicate, List.length_take, List.length_drop] at *; omega) | (simp; done) | decide) (by first | rfl | assumption | omega | (simp only [List.length_append, List.length_cons, List.length_nil, List.length_set, List.length_replicate, List.length_take, List.length_drop]; omega) | (simp; done))) [] (by kernel_rfl) (Lend.nil _) ?_)
  rintro _ _ ⟨Aq3, cb4, zs5, rfl, rfl, hp6, hp7, hp8, hp9, hp10⟩
  refine ⟨.inl (by kernel_rfl), ?_⟩
  refine RunU.one (dst := some 8) (op := .call { callee := .value (.func 42), args := #[.tmp 7], argTypes := #[31] }) 3 (bm 6 15) [] (by kernel_rfl) (by kernel_rfl) (Step.call 42 [.agg (nums .i64 ys).toArray] (by kernel_rfl) (by kernel_rfl) [] [] [row 5 1 (.slice Aq3 zs5.length cb4) zs5.length (nums .u8 zs5), blk b2 31 (nums .i64 ys), blk b1 27 (nums .u64 xs)] (n_Bytes_spec ys w (by first | assumption | omega | (simp only [List.length_append, List.length_cons, List.length_nil, List.length_set, List.length_replicate, List.length_take, List.length_drop]; omega) | (simp only [fits] at *; omega) | (simp only [List.length_append, List.length_cons, List.length_nil, List.length_set, List.length_replicate, List.length_take, List.length_drop] at *; omega) | (simp; done) | decide) (by first | rfl | assumption | omega | (simp only [List.length_append, List.length_cons, List.length_nil, List.length_set, List.length_replicate, List.length_take, List.length_drop]; omega) | (simp; done))) [] (by kernel_rfl) (Lend.nil _) ?_)
  rintro _ _ ⟨Aq11, cb12, zs13, rfl, rfl, hp14, hp15, hp16, hp17, hp18⟩
  refine ⟨.inr (by kernel_rfl), ?_⟩
  refine RunU.one (dst := some 9) (op := .call { callee := .value (.func 20), args := #[.tmp 6, .tmp 8], argTypes := #[22, 22] }) 4 (bm 6 31) [] (by kernel_rfl) (by kernel_rfl) (Step.call 20 [.slice Aq3 zs5.length cb4, .slice Aq11 zs13.length cb12] (by kernel_rfl) (by kernel_rfl) [] [vw Aq3 (nums .u8 zs5), vw Aq11 (nums .u8 zs13)] [row 5 1 (.slice Aq11 zs13.length cb12) zs13.length (nums .u8 zs13), row 5 1 (.slice Aq3 zs5.length cb4) zs5.length (nums .u8 zs5), blk b2 31 (nums .i64 ys), blk b1 27 (nums .u64 xs)] (r_Equal_spec Aq3 cb4 zs5 Aq11 cb12 zs13 zs5.length zs13.length hp8 (by first | assumption | omega | (simp only [List.length_append, List.length_cons, List.length_nil, List.length_set, List.length_replicate, List.length_take, List.length_drop]; omega) | (simp only [fits] at *; omega) | (simp only [List.length_append, List.length_cons, List.length_nil, List.length_set, List.length_replicate, List.length_take, List.length_drop] at *; omega) | (simp; done) | decide) hp16 (by first | assumption | omega | (simp only [List.length_append, List.length_cons, List.length_nil, List.length_set, List.length_replicate, List.length_take, List.length_drop]; omega) | (simp only [fits] at *; omega) | (simp only [List.length_append, List.length_cons, List.length_nil, List.length_set, List.length_replicate, List.length_take, List.length_drop] at *; omega) | (simp; done) | decide) (by first | rfl | assumption | omega | (simp only [List.length_append, List.length_cons, List.length_nil, List.length_set, List.length_replicate, List.length_take, List.length_drop]; omega) | (simp; done)) (by first | rfl | assumption | omega | (simp only [List.length_append, List.length_cons, List.length_nil, List.length_set, List.length_replicate, List.length_take, List.length_drop]; omega) | (simp; done))) [] (by kernel_rfl) (((Lend.nil _).tells 0 (row 5 1 (.slice Aq11 zs13.length cb12) zs13.length (nums .u8 zs13)) Aq11 (nums .u8 zs13) (by kernel_rfl) (tells_row _ _ _ _ _ _)).tells 1 (row 5 1 (.slice Aq3 zs5.length cb4) zs5.length (nums .u8 zs5)) Aq3 (nums .u8 zs5) (by kernel_rfl) (tells_row _ _ _ _ _ _)) ?_)
  rintro _ _ ⟨rfl, rfl⟩
  refine ⟨.inr (by kernel_rfl), ?_⟩
  refine RunU.sil hU false 5 (bm 6 63) 4 (.bool (decide (zs5 = zs13))) (True) (by kernel_rfl) trivial (by kernel_rfl) (by kernel_rfl) (fun _ _ _ h => h) ?_
  refine RunU.env [4] [(4, .bool (decide (zs5 = zs13)))] (by kernel_rfl) ?_
  refine RunU.done (by kernel_rfl) ?_
  refine kseq_n ?_
  refine RunC.ret ?_
  refine kret_r [.bool (decide (zs5 = zs13))] [] [] ⟨rfl, trivial⟩ (by kernel_rfl) rfl ⟨(by first | rfl | (exact congrArg Value.bool (decide_eq_decide.2 (Dg.inj (by assumption) (by assumption))))), (by first | rfl | (exact congrArg Value.bool (decide_eq_decide.2 (Dg.inj (by assumption) (by assumption)))))⟩
end Go.Proofs.Ytbnjcfhnbjaoiaa.Y7
