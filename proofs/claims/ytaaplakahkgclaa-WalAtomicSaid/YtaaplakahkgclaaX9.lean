/- What these functions compute: a contract for each, walked through its code. -/
import Derived.Test.YtaaplakahkgclaaSLzk
import Derived.Test.YtaaplakahkgclaaBPure
import Derived.Test.YtaaplakahkgclaaProg
import Derived.Test.YtaaplakahkgclaaX1
import Derived.Test.YtaaplakahkgclaaX2
import Derived.Test.YtaaplakahkgclaaX3
import Derived.Test.YtaaplakahkgclaaX4
import Derived.Test.YtaaplakahkgclaaX5
import Derived.Test.YtaaplakahkgclaaX6
import Derived.Test.YtaaplakahkgclaaX7
import Derived.Test.YtaaplakahkgclaaX8
namespace Go.Proofs.Ytaaplakahkgclaa.X9
open Go Go.Proofs.Ytaaplakahkgclaa.SL Go.Proofs.Ytaaplakahkgclaa.SL.W Go.Proofs.Ytaaplakahkgclaa.SL.D Go.Proofs.Ytaaplakahkgclaa.X1 Go.Proofs.Ytaaplakahkgclaa.X2 Go.Proofs.Ytaaplakahkgclaa.X3 Go.Proofs.Ytaaplakahkgclaa.X4 Go.Proofs.Ytaaplakahkgclaa.X5 Go.Proofs.Ytaaplakahkgclaa.X6 Go.Proofs.Ytaaplakahkgclaa.X7 Go.Proofs.Ytaaplakahkgclaa.X8
set_option linter.unusedVariables false
set_option linter.unusedSimpArgs false
set_option maxRecDepth 100000
set_option maxHeartbeats 40000000
def U : Tab where
  und := [(3, .int .i64), (4, .bool), (5, .int .u8), (23, .slice 5), (28, .slice 51), (30, .pointer 70), (32, .pointer 72), (50, .struct #[{ name := "Block", type := 3, offset := 0, embedded := false, tag := "", pkgPath := "", byteOffset := 0 }, { name := "Data", type := 23, offset := 1, embedded := false, tag := "", pkgPath := "", byteOffset := 8 }]), (51, .struct #[{ name := "Block", type := 3, offset := 0, embedded := false, tag := "", pkgPath := "", byteOffset := 0 }, { name := "Data", type := 23, offset := 1, embedded := false, tag := "", pkgPath := "", byteOffset := 8 }]), (52, .func #[] #[33] false), (69, .struct #[{ name := "safe", type := 23, offset := 0, embedded := false, tag := "", pkgPath := "orlop/disk", byteOffset := 0 }, { name := "wait", type := 28, offset := 1, embedded := false, tag := "", pkgPath := "orlop/disk", byteOffset := 24 }, { name := "left", type := 3, offset := 2, embedded := false, tag := "", pkgPath := "orlop/disk", byteOffset := 48 }, { name := "down", type := 4, offset := 3, embedded := false, tag := "", pkgPath := "orlop/disk", byteOffset := 56 }]), (70, .struct #[{ name := "safe", type := 23, offset := 0, embedded := false, tag := "", pkgPath := "orlop/disk", byteOffset := 0 }, { name := "wait", type := 28, offset := 1, embedded := false, tag := "", pkgPath := "orlop/disk", byteOffset := 24 }, { name := "left", type := 3, offset := 2, embedded := false, tag := "", pkgPath := "orlop/disk", byteOffset := 48 }, { name := "down", type := 4, offset := 3, embedded := false, tag := "", pkgPath := "orlop/disk", byteOffset := 56 }]), (71, .struct #[{ name := "d", type := 30, offset := 0, embedded := false, tag := "", pkgPath := "orlop/wal", byteOffset := 0 }]), (72, .struct #[{ name := "d", type := 30, offset := 0, embedded := false, tag := "", pkgPath := "orlop/wal", byteOffset := 0 }]), (75, .struct #[{ name := "d", type := 30, offset := 0, embedded := false, tag := "", pkgPath := "orlop/wal", byteOffset := 0 }, { name := "list", type := 28, offset := 1, embedded := false, tag := "", pkgPath := "orlop/wal", byteOffset := 8 }]), (76, .struct #[{ name := "d", type := 30, offset := 0, embedded := false, tag := "", pkgPath := "orlop/wal", byteOffset := 0 }, { name := "list", type := 28, offset := 1, embedded := false, tag := "", pkgPath := "orlop/wal", byteOffset := 8 }]), (99, .slice 52)]
  fld := [((50, 0), (0, 3)), ((50, 1), (1, 23)), ((51, 0), (0, 3)), ((51, 1), (1, 23)), ((69, 0), (0, 23)), ((69, 1), (1, 28)), ((69, 2), (2, 3)), ((69, 3), (3, 4)), ((70, 0), (0, 23)), ((70, 1), (1, 28)), ((70, 2), (2, 3)), ((70, 3), (3, 4)), ((71, 0), (0, 30)), ((72, 0), (0, 30)), ((75, 0), (0, 30)), ((75, 1), (1, 28)), ((76, 0), (0, 30)), ((76, 1), (1, 28))]
  sz := [(3, 1), (4, 1), (5, 1), (23, 1), (28, 1), (30, 1), (32, 1), (50, 2), (51, 2), (52, 1), (69, 4), (70, 4), (71, 1), (72, 1), (75, 2), (76, 2), (99, 1)]
  ti := [(3, (1, 8, .int .i64 0)), (4, (1, 1, .bool false)), (5, (1, 1, .int .u8 0)), (23, (1, 24, .slice none 0 0)), (28, (1, 24, .slice none 0 0)), (30, (1, 8, .pointer none)), (32, (1, 8, .pointer none)), (50, (2, 32, .agg #[.int .i64 0, .slice none 0 0])), (51, (2, 32, .agg #[.int .i64 0, .slice none 0 0])), (52, (1, 8, .nilFunc)), (69, (4, 64, .agg #[.slice none 0 0, .slice none 0 0, .int .i64 0, .bool false])), (70, (4, 64, .agg #[.slice none 0 0, .slice none 0 0, .int .i64 0, .bool false])), (71, (1, 8, .agg #[.pointer none])), (72, (1, 8, .agg #[.pointer none])), (75, (2, 32, .agg #[.pointer none, .slice none 0 0])), (76, (2, 32, .agg #[.pointer none, .slice none 0 0])), (99, (1, 24, .slice none 0 0))]
  bld := [(50, [(0, 1), (1, 1)]), (51, [(0, 1), (1, 1)]), (69, [(0, 1), (1, 1), (2, 1), (3, 1)]), (70, [(0, 1), (1, 1), (2, 1), (3, 1)]), (71, [(0, 1)]), (72, [(0, 1)]), (75, [(0, 1), (1, 1)]), (76, [(0, 1), (1, 1)])]

theorem hU : U.OK Try.prog where
  und := by
    intro p hp
    simp only [U, List.mem_cons, List.not_mem_nil, or_false] at hp
    rcases hp with rfl | rfl | rfl | rfl | rfl | rfl | rfl | rfl | rfl | rfl | rfl | rfl | rfl | rfl | rfl | rfl | rfl
    · exact Try.underlying3
    · exact Try.underlying4
    · exact Try.underlying5
    · exact Try.underlying23
    · exact Try.underlying28
    · exact Try.underlying30
    · exact Try.underlying32
    · exact Try.underlying50
    · exact Try.underlying51
    · exact Try.underlying52
    · exact Try.underlying69
    · exact Try.underlying70
    · exact Try.underlying71
    · exact Try.underlying72
    · exact Try.underlying75
    · exact Try.underlying76
    · exact Try.underlying99
  fld := by
    intro p hp
    simp only [U, List.mem_cons, List.not_mem_nil, or_false] at hp
    rcases hp with rfl | rfl | rfl | rfl | rfl | rfl | rfl | rfl | rfl | rfl | rfl | rfl | rfl | rfl | rfl | rfl | rfl | rfl
    · exact ⟨_, _, Try.underlying50, rfl, rfl, rfl, Try.prog.types[3]!, by kernel_rfl, by decide +kernel⟩
    · exact ⟨_, _, Try.underlying50, rfl, rfl, rfl, Try.prog.types[23]!, by kernel_rfl, by decide +kernel⟩
    · exact ⟨_, _, Try.underlying51, rfl, rfl, rfl, Try.prog.types[3]!, by kernel_rfl, by decide +kernel⟩
    · exact ⟨_, _, Try.underlying51, rfl, rfl, rfl, Try.prog.types[23]!, by kernel_rfl, by decide +kernel⟩
    · exact ⟨_, _, Try.underlying69, rfl, rfl, rfl, Try.prog.types[23]!, by kernel_rfl, by decide +kernel⟩
    · exact ⟨_, _, Try.underlying69, rfl, rfl, rfl, Try.prog.types[28]!, by kernel_rfl, by decide +kernel⟩
    · exact ⟨_, _, Try.underlying69, rfl, rfl, rfl, Try.prog.types[3]!, by kernel_rfl, by decide +kernel⟩
    · exact ⟨_, _, Try.underlying69, rfl, rfl, rfl, Try.prog.types[4]!, by kernel_rfl, by decide +kernel⟩
    · exact ⟨_, _, Try.underlying70, rfl, rfl, rfl, Try.prog.types[23]!, by kernel_rfl, by decide +kernel⟩
    · exact ⟨_, _, Try.underlying70, rfl, rfl, rfl, Try.prog.types[28]!, by kernel_rfl, by decide +kernel⟩
    · exact ⟨_, _, Try.underlying70, rfl, rfl, rfl, Try.prog.types[3]!, by kernel_rfl, by decide +kernel⟩
    · exact ⟨_, _, Try.underlying70, rfl, rfl, rfl, Try.prog.types[4]!, by kernel_rfl, by decide +kernel⟩
    · exact ⟨_, _, Try.underlying71, rfl, rfl, rfl, Try.prog.types[30]!, by kernel_rfl, by decide +kernel⟩
    · exact ⟨_, _, Try.underlying72, rfl, rfl, rfl, Try.prog.types[30]!, by kernel_rfl, by decide +kernel⟩
    · exact ⟨_, _, Try.underlying75, rfl, rfl, rfl, Try.prog.types[30]!, by kernel_rfl, by decide +kernel⟩
    · exact ⟨_, _, Try.underlying75, rfl, rfl, rfl, Try.prog.types[28]!, by kernel_rfl, by decide +kernel⟩
    · exact ⟨_, _, Try.underlying76, rfl, rfl, rfl, Try.prog.types[30]!, by kernel_rfl, by decide +kernel⟩
    · exact ⟨_, _, Try.underlying76, rfl, rfl, rfl, Try.prog.types[28]!, by kernel_rfl, by decide +kernel⟩
  sz := by
    intro p hp
    simp only [U, List.mem_cons, List.not_mem_nil, or_false] at hp
    rcases hp with rfl | rfl | rfl | rfl | rfl | rfl | rfl | rfl | rfl | rfl | rfl | rfl | rfl | rfl | rfl | rfl | rfl
    · exact ⟨Try.prog.types[3]!, by kernel_rfl, by kernel_rfl⟩
    · exact ⟨Try.prog.types[4]!, by kernel_rfl, by kernel_rfl⟩
    · exact ⟨Try.prog.types[5]!, by kernel_rfl, by kernel_rfl⟩
    · exact ⟨Try.prog.types[23]!, by kernel_rfl, by kernel_rfl⟩
    · exact ⟨Try.prog.types[28]!, by kernel_rfl, by kernel_rfl⟩
    · exact ⟨Try.prog.types[30]!, by kernel_rfl, by kernel_rfl⟩
    · exact ⟨Try.prog.types[32]!, by kernel_rfl, by kernel_rfl⟩
    · exact ⟨Try.prog.types[50]!, by kernel_rfl, by kernel_rfl⟩
    · exact ⟨Try.prog.types[51]!, by kernel_rfl, by kernel_rfl⟩
    · exact ⟨Try.prog.types[52]!, by kernel_rfl, by kernel_rfl⟩
    · exact ⟨Try.prog.types[69]!, by kernel_rfl, by kernel_rfl⟩
    · exact ⟨Try.prog.types[70]!, by kernel_rfl, by kernel_rfl⟩
    · exact ⟨Try.prog.types[71]!, by kernel_rfl, by kernel_rfl⟩
    · exact ⟨Try.prog.types[72]!, by kernel_rfl, by kernel_rfl⟩
    · exact ⟨Try.prog.types[75]!, by kernel_rfl, by kernel_rfl⟩
    · exact ⟨Try.prog.types[76]!, by kernel_rfl, by kernel_rfl⟩
    · exact ⟨Try.prog.types[99]!, by kernel_rfl, by kernel_rfl⟩
  ti := by
    intro p hp
    simp only [U, List.mem_cons, List.not_mem_nil, or_false] at hp
    rcases hp with rfl | rfl | rfl | rfl | rfl | rfl | rfl | rfl | rfl | rfl | rfl | rfl | rfl | rfl | rfl | rfl | rfl
    · exact ⟨Try.prog.types[3]!, by kernel_rfl, by kernel_rfl, by kernel_rfl, by kernel_rfl⟩
    · exact ⟨Try.prog.types[4]!, by kernel_rfl, by kernel_rfl, by kernel_rfl, by kernel_rfl⟩
    · exact ⟨Try.prog.types[5]!, by kernel_rfl, by kernel_rfl, by kernel_rfl, by kernel_rfl⟩
    · exact ⟨Try.prog.types[23]!, by kernel_rfl, by kernel_rfl, by kernel_rfl, by kernel_rfl⟩
    · exact ⟨Try.prog.types[28]!, by kernel_rfl, by kernel_rfl, by kernel_rfl, by kernel_rfl⟩
    · exact ⟨Try.prog.types[30]!, by kernel_rfl, by kernel_rfl, by kernel_rfl, by kernel_rfl⟩
    · exact ⟨Try.prog.types[32]!, by kernel_rfl, by kernel_rfl, by kernel_rfl, by kernel_rfl⟩
    · exact ⟨Try.prog.types[50]!, by kernel_rfl, by kernel_rfl, by kernel_rfl, by kernel_rfl⟩
    · exact ⟨Try.prog.types[51]!, by kernel_rfl, by kernel_rfl, by kernel_rfl, by kernel_rfl⟩
    · exact ⟨Try.prog.types[52]!, by kernel_rfl, by kernel_rfl, by kernel_rfl, by kernel_rfl⟩
    · exact ⟨Try.prog.types[69]!, by kernel_rfl, by kernel_rfl, by kernel_rfl, by kernel_rfl⟩
    · exact ⟨Try.prog.types[70]!, by kernel_rfl, by kernel_rfl, by kernel_rfl, by kernel_rfl⟩
    · exact ⟨Try.prog.types[71]!, by kernel_rfl, by kernel_rfl, by kernel_rfl, by kernel_rfl⟩
    · exact ⟨Try.prog.types[72]!, by kernel_rfl, by kernel_rfl, by kernel_rfl, by kernel_rfl⟩
    · exact ⟨Try.prog.types[75]!, by kernel_rfl, by kernel_rfl, by kernel_rfl, by kernel_rfl⟩
    · exact ⟨Try.prog.types[76]!, by kernel_rfl, by kernel_rfl, by kernel_rfl, by kernel_rfl⟩
    · exact ⟨Try.prog.types[99]!, by kernel_rfl, by kernel_rfl, by kernel_rfl, by kernel_rfl⟩
  bld := by
    intro p hp
    simp only [U, List.mem_cons, List.not_mem_nil, or_false] at hp
    rcases hp with rfl | rfl | rfl | rfl | rfl | rfl | rfl | rfl
    · exact ⟨_, Try.underlying50, by kernel_rfl⟩
    · exact ⟨_, Try.underlying51, by kernel_rfl⟩
    · exact ⟨_, Try.underlying69, by kernel_rfl⟩
    · exact ⟨_, Try.underlying70, by kernel_rfl⟩
    · exact ⟨_, Try.underlying71, by kernel_rfl⟩
    · exact ⟨_, Try.underlying72, by kernel_rfl⟩
    · exact ⟨_, Try.underlying75, by kernel_rfl⟩
    · exact ⟨_, Try.underlying76, by kernel_rfl⟩
  mixed := by kernel_rfl

theorem wl_Commit__spec (bx : Nat) (wj : Nat) (d : Nat) (A : Option Addr) (n : Nat) (c : Nat) (Wa : Option Addr) (m : Nat) (wc : Nat) (lf : Int) (dn : Bool) (b : Int) (A8 : Option Addr) (bn : Nat) (c8 : Nat) (hn6 : n % 256 = 0) (hnb : n ≤ 557056) :
    CallsS Try.prog 45 [.agg #[.int .i64 b, .slice A8 bn c8], pt bx] [blk bx 32 [pt wj], blk wj 72 [pt d], blk d 70 [.slice A n c, .slice Wa m wc, .int .i64 lf, .bool dn]] (fun r D => r = .bool (decide (¬ (0 ≤ b ∧ 256 * (42 + b) + 256 ≤ (n : Int)) ∨ ¬ (bn : Int) = 256)) ∧ D = [blk bx 32 [pt wj], blk wj 72 [pt d], blk d 70 [.slice A n c, .slice Wa m wc, .int .i64 lf, .bool dn]]) := by
  refine CallsS.enter hU Try.f45 _ [.tmp 3] 15 Try.func45 rfl (by decide) rfl rfl (by kernel_rfl) fun w0 W => ?_
  refine RunC.sr ?_
  refine RunR.st (some 2) (.box 51 (.tmp 0)) (Step.box (.agg #[.int .i64 b, .slice A8 bn c8]) (by kernel_rfl) (by kernel_rfl) (fun b1 => ?_))
  refine RunR.sl hU [] 1 2 [1, 2, 3] [(1, pt bx), (2, pt b1), (3, .bool false)] 1 ?_
  refine RunR.nx ?_
  refine RunR.st (some 4) (.load 32 (.tmp 1)) (Step.load_blk hU 1 bx (0) 32 [pt wj] (pt wj) (by kernel_rfl) (by kernel_rfl) (by kernel_rfl) (by kernel_rfl) ?_)
  refine RunR.sl hU [] 1 2 [2, 3, 4, 5] [(2, pt b1), (3, .bool false), (4, pt wj), (5, pt b1)] 1 ?_
  refine RunR.st (some 6) (.load 3 (.tmp 5)) (Step.load_blk hU 0 b1 (0) 51 [.int .i64 b, .slice A8 bn c8] (.int .i64 b) (by kernel_rfl) (by kernel_rfl) (by kernel_rfl) (by kernel_rfl) ?_)
  refine RunR.st (some 7) (.call { callee := .value (.func 46), args := #[.tmp 4, .tmp 6], argTypes := #[32, 3] }) (Step.cn 46 [pt wj, .int .i64 b] [blk wj 72 [pt d], blk d 70 [.slice A n c, .slice Wa m wc, .int .i64 lf, .bool dn]] [blk b1 51 [.int .i64 b, .slice A8 bn c8], blk bx 32 [pt wj]] (wl_there_spec wj d A n c Wa m wc lf dn b (by assumption) (by assumption)) [2, 2] ?_)
  rintro _ _ ⟨rfl, rfl⟩
  refine RunR.sl hU [] 2 6 [2, 3, 9] [(2, pt b1), (3, .bool false), (9, .bool (!decide (0 ≤ b ∧ 256 * (42 + b) + 256 ≤ (n : Int))))] 2 ?_
  refine RunR.ev [2, 3, 9] [(2, pt b1), (3, .bool false), (9, .bool (!decide (0 ≤ b ∧ 256 * (42 + b) + 256 ≤ (n : Int))))] ?_
  by_cases h2 : 0 ≤ b ∧ 256 * (42 + b) + 256 ≤ (n : Int)
  · skip
    refine RunR.enveq [(2, pt b1), (3, .bool false), (9, .bool false)] (by rw [decide_eq_true h2]; try rfl) ?_
    refine RunR.sl hU [] 1 7 [3, 9, 10] [(3, .bool false), (9, .bool false), (10, .pointer (some ⟨b1, 1, none⟩))] 1 ?_
    refine RunR.st (some 11) (.load 23 (.tmp 10)) (Step.load_blk hU 2 b1 (1) 51 [.int .i64 b, .slice A8 bn c8] (.slice A8 bn c8) (by kernel_rfl) (by kernel_rfl) (by kernel_rfl) (by kernel_rfl) ?_)
    refine RunR.sl hU [] 4 12 [3] [(3, .bool (!decide (((bn : Nat) : Int) = 256)))] 4 ?_
    refine RunR.nn ?_
    refine RunC.ret ?_
    refine kret_r [.bool (!decide (((bn : Nat) : Int) = 256))] [3, 0, 0] [blk bx 32 [pt wj], blk wj 72 [pt d], blk d 70 [.slice A n c, .slice Wa m wc, .int .i64 lf, .bool dn]] ⟨rfl, trivial⟩ (by kernel_rfl) rfl ⟨(by (exact congrArg Value.bool (by rw [← decide_not]; exact decide_eq_decide.2 (by omega)))), (by rfl)⟩
  · skip
    refine RunR.enveq [(2, pt b1), (3, .bool false), (9, .bool true)] (by rw [decide_eq_false h2]; try rfl) ?_
    refine RunR.sl hU [] 6 12 [3] [(3, .bool true)] 2 ?_
    refine RunR.nn ?_
    refine RunC.ret ?_
    refine kret_r [.bool true] [3, 0, 0] [blk bx 32 [pt wj], blk wj 72 [pt d], blk d 70 [.slice A n c, .slice Wa m wc, .int .i64 lf, .bool dn]] ⟨rfl, trivial⟩ (by kernel_rfl) rfl ⟨(by (exact congrArg Value.bool (decide_eq_true (by omega)).symm)), (by rfl)⟩

theorem wl_IndexFunc_spec (bx : Nat) (wj : Nat) (d : Nat) (A : Option Addr) (n : Nat) (c : Nat) (Wa : Option Addr) (m : Nat) (wc : Nat) (lf : Int) (dn : Bool) (La : Option Addr) (lm : Nat) (lc : Nat) (ls : List Ch) (hn6 : n % 256 = 0) (hnb : n ≤ 557056) (hll : ls.length = lm) (hlb : lm ≤ 1000000) (hlok : ChOK .u8 ls) :
    CallsS Try.prog 67 [.slice La lm lc, .func (.func 45) #[] #[pt bx]] [blk bx 32 [pt wj], blk wj 72 [pt d], blk d 70 [.slice A n c, .slice Wa m wc, .int .i64 lf, .bool dn], vw La (chV ls)] (fun r D => ∃ (ix : Int), r = .int .i64 ix ∧ D = [blk bx 32 [pt wj], blk wj 72 [pt d], blk d 70 [.slice A n c, .slice Wa m wc, .int .i64 lf, .bool dn]] ∧ (0 ≤ ix ↔ ¬ BOK n ls)) := by
  refine CallsS.enter hU Try.f67 _ [.tmp 4] 19 Try.func67 rfl (by decide) rfl rfl (by kernel_rfl) fun w0 W => ?_
  refine RunC.know (p := 0 < ls.length * 2 → Option.isSome La = true) (fun _ _ w hs => vw_some hs 3 rfl (by exact chV_len _)) (fun hA1 => ?_)
  refine RunC.sr ?_
  refine RunR.sl hU [] 1 1 [0, 1, 4] [(0, .slice La lm lc), (1, .func (.func 45) #[] #[pt bx]), (4, .int .i64 0)] 1 ?_
  refine RunR.nn ?_
  refine RunC.seq ?_
  refine RunC.sr ?_
  refine RunR.sl hU [] 3 3 [0, 1, 4, 7, 8] [(0, .slice La lm lc), (1, .func (.func 45) #[] #[pt bx]), (4, .int .i64 0), (7, .int .i64 ((lm : Nat) : Int)), (8, .int .i64 0)] 3 ?_
  refine RunR.nn ?_
  refine RunC.block ?_
  refine RunC.env [0, 1, 7, 8] [(0, .slice La lm lc), (1, .func (.func 45) #[] #[pt bx]), (7, .int .i64 ((lm : Nat) : Int)), (8, .int .i64 0)] (by kernel_rfl) ?_
  refine RunC.only [0, 0, 0, 0] [blk bx 32 [pt wj], blk wj 72 [pt d], blk d 70 [.slice A n c, .slice Wa m wc, .int .i64 lf, .bool dn], vw La (chV ls)] (by kernel_rfl) ?_
  refine RunC.loop (σ := Nat) (fun n_ t_ D_ => ∃ (i : Int), (0 ≤ i) ∧ (i ≤ (lm : Int)) ∧ (BOK n (ls.take i.toNat)) ∧ n_ = ((lm - i).toNat : Nat) ∧ t_ = [(0, .slice La lm lc), (1, .func (.func 45) #[] #[pt bx]), (7, .int .i64 ((lm : Nat) : Int)), (8, .int .i64 i)] ∧ D_ = [blk bx 32 [pt wj], blk wj 72 [pt d], blk d 70 [.slice A n c, .slice Wa m wc, .int .i64 lf, .bool dn], vw La (chV ls)]) id _ ⟨0, (by omega), (by omega), (by exact BOK.nil _), rfl, rfl, rfl⟩ ?_
  rintro n_ _ _ ⟨i, hi, him, hbk, rfl, rfl, rfl⟩
  refine RunC.sr ?_
  refine RunR.sl hU [] 1 1 [0, 1, 7, 8, 9] [(0, .slice La lm lc), (1, .func (.func 45) #[] #[pt bx]), (7, .int .i64 ((lm : Nat) : Int)), (8, .int .i64 i), (9, .bool (decide (i < ((lm : Nat) : Int))))] 1 ?_
  refine RunR.nn ?_
  refine RunC.seq ?_
  refine RunC.condp (i < ((lm : Nat) : Int)) (by kernel_rfl) (fun h2 => ?_) (fun h2 => ?_)
  · skip
    refine RunC.ks ?_
    refine RunC.seq ?_
    refine RunC.block ?_
    refine RunC.sr ?_
    refine RunR.sl hU [] 2 2 [0, 1, 5, 7, 8] [(0, .slice La lm lc), (1, .func (.func 45) #[] #[pt bx]), (5, .int .i64 i), (7, .int .i64 ((lm : Nat) : Int)), (8, .int .i64 i)] 2 ?_
    refine RunR.nx ?_
    refine RunR.sil hU [] 4 4 [0, 1, 5, 7, 8, 11, 14] [(0, .slice La lm lc), (1, .func (.func 45) #[] #[pt bx]), (5, .int .i64 i), (7, .int .i64 ((lm : Nat) : Int)), (8, .int .i64 i), (11, .func (.func 45) #[] #[pt bx]), (14, .pointer (elemAt La i 2))] ((True) ∧ (True) ∧ (True) ∧ ((0 ≤ i ∧ i < ((lm : Nat) : Int)) ∧ Option.isSome La = true) ∧ True) rfl (by kernel_rfl) ⟨trivial, trivial, trivial, ⟨by omega, hA1 (by omega)⟩, trivial⟩ ?_
    obtain ⟨k3, Ae4, ce5, xe6, hg7, hf8, hr9, hc10, hl11⟩ := ch_at (by assumption : ChOK .u8 ls) (i := (i).toNat) (by omega)
    have hf12 := hf8; simp only [fits] at hf12
    refine RunR.st (some 15) (.load 51 (.tmp 14)) (Step.load_of hU 3 (vw La (chV ls)) La i 2 (chV ls) (.agg #[.int .i64 k3, .slice Ae4 xe6.length ce5]) (by kernel_rfl) (by kernel_rfl) (tells_vw _ _) (loadv_ch (by kernel_rfl) (by kernel_rfl) hg7) (by kernel_rfl) (by rw [chV_len]; omega) ?_)
    refine RunR.st (some 16) (.call { callee := .value (.tmp 11), args := #[.tmp 15], argTypes := #[51] }) (Step.cn 45 [.agg #[.int .i64 k3, .slice Ae4 xe6.length ce5], pt bx] [blk bx 32 [pt wj], blk wj 72 [pt d], blk d 70 [.slice A n c, .slice Wa m wc, .int .i64 lf, .bool dn]] [vw La (chV ls)] (wl_Commit__spec bx wj d A n c Wa m wc lf dn k3 Ae4 xe6.length ce5 (by assumption) (by assumption)) [0, 0, 0] ?_)
    rintro _ _ ⟨rfl, rfl⟩
    refine RunR.nn ?_
    refine RunC.condp (¬ (0 ≤ k3 ∧ 256 * (42 + k3) + 256 ≤ (n : Int)) ∨ ¬ (xe6.length : Int) = 256) (by kernel_rfl) (fun h13 => ?_) (fun h13 => ?_)
    · skip
      refine RunC.sr ?_
      refine RunR.sl hU [] 2 2 [0, 1, 4, 7, 8] [(0, .slice La lm lc), (1, .func (.func 45) #[] #[pt bx]), (4, .int .i64 i), (7, .int .i64 ((lm : Nat) : Int)), (8, .int .i64 i)] 2 ?_
      refine RunR.nn ?_
      refine RunC.ret ?_
      refine kblock_r ?_
      refine kseq_r ?_
      refine kloop_r ?_
      refine kblock_r ?_
      refine kseq_r ?_
      refine kret_r [.int .i64 i] [0, 0, 0] [blk bx 32 [pt wj], blk wj 72 [pt d], blk d 70 [.slice A n c, .slice Wa m wc, .int .i64 lf, .bool dn]] ⟨rfl, trivial⟩ (by kernel_rfl) rfl ⟨i, rfl, rfl, (by exact ⟨fun _ => bok_not (by assumption) (by assumption), fun _ => by omega⟩)⟩
    · skip
      refine RunC.skip ?_
      refine kblock_n ?_
      refine kseq_n ?_
      refine RunC.region ?_
      refine RunR.sil hU [0] 2 2 [0, 1, 7, 8] [(0, .slice La lm lc), (1, .func (.func 45) #[] #[pt bx]), (7, .int .i64 ((lm : Nat) : Int)), (8, .int .i64 (i + 1))] ((-9223372036854775808 ≤ (i + 1) ∧ (i + 1) < 9223372036854775808) ∧ (True) ∧ True) rfl (by kernel_rfl) ⟨(by omega), trivial, trivial⟩ ?_
      refine RunR.dn ?_
      refine kloop_n _ [0, 1, 7, 8] [0, 0, 0, 0] [(0, .slice La lm lc), (1, .func (.func 45) #[] #[pt bx]), (7, .int .i64 ((lm : Nat) : Int)), (8, .int .i64 (i + 1))] [blk bx 32 [pt wj], blk wj 72 [pt d], blk d 70 [.slice A n c, .slice Wa m wc, .int .i64 lf, .bool dn], vw La (chV ls)] (by kernel_rfl) (by kernel_rfl) ?_ ⟨(i + 1), (by omega), (by assumption), (by rw [show (i + 1).toNat = i.toNat + 1 by omega]; exact bok_succ hbk (by assumption) (by assumption)), rfl, (by rfl), (by rfl)⟩
      show ((lm - (i + 1)).toNat : Nat) < ((lm - i).toNat : Nat)
      omega
  · skip
    refine RunC.exit ?_
    refine kseq_e ?_
    refine kloop_e ?_
    refine kblock_e ?_
    refine kseq_n ?_
    refine RunC.sr ?_
    refine RunR.sl hU [] 1 1 [4] [(4, .int .i64 (-1))] 1 ?_
    refine RunR.nn ?_
    refine RunC.ret ?_
    refine kret_r [.int .i64 (-1)] [0, 0, 0] [blk bx 32 [pt wj], blk wj 72 [pt d], blk d 70 [.slice A n c, .slice Wa m wc, .int .i64 lf, .bool dn]] ⟨rfl, trivial⟩ (by kernel_rfl) rfl ⟨(-1), rfl, rfl, (by exact ⟨fun h => by omega, fun h => absurd (bok_all hbk (by omega)) h⟩)⟩

theorem wl_Contains_spec (bx : Nat) (wj : Nat) (d : Nat) (A : Option Addr) (n : Nat) (c : Nat) (Wa : Option Addr) (m : Nat) (wc : Nat) (lf : Int) (dn : Bool) (La : Option Addr) (lm : Nat) (lc : Nat) (ls : List Ch) (hn6 : n % 256 = 0) (hnb : n ≤ 557056) (hll : ls.length = lm) (hlb : lm ≤ 1000000) (hlok : ChOK .u8 ls) :
    CallsS Try.prog 44 [.slice La lm lc, .func (.func 45) #[] #[pt bx]] [blk bx 32 [pt wj], blk wj 72 [pt d], blk d 70 [.slice A n c, .slice Wa m wc, .int .i64 lf, .bool dn], vw La (chV ls)] (fun r D => r = .bool (decide (¬ BOK n ls)) ∧ D = [blk bx 32 [pt wj], blk wj 72 [pt d], blk d 70 [.slice A n c, .slice Wa m wc, .int .i64 lf, .bool dn]]) := by
  refine CallsS.enter hU Try.f44 _ [.tmp 4] 9 Try.func44 rfl (by decide) rfl rfl (by kernel_rfl) fun w0 W => ?_
  refine RunC.know (p := 0 < ls.length * 2 → Option.isSome La = true) (fun _ _ w hs => vw_some hs 3 rfl (by exact chV_len _)) (fun hA1 => ?_)
  refine RunC.sr ?_
  refine RunR.sl hU [] 1 1 [0, 1, 4] [(0, .slice La lm lc), (1, .func (.func 45) #[] #[pt bx]), (4, .bool false)] 1 ?_
  refine RunR.nx ?_
  refine RunR.sl hU [] 2 2 [4, 5, 6] [(4, .bool false), (5, .slice La lm lc), (6, .func (.func 45) #[] #[pt bx])] 2 ?_
  refine RunR.st (some 7) (.call { callee := .value (.func 67), args := #[.tmp 5, .tmp 6], argTypes := #[28, 80] }) (Step.cl 67 [.slice La lm lc, .func (.func 45) #[] #[pt bx]] [blk bx 32 [pt wj], blk wj 72 [pt d], blk d 70 [.slice A n c, .slice Wa m wc, .int .i64 lf, .bool dn]] [vw La (chV ls)] [vw La (chV ls)] (wl_IndexFunc_spec bx wj d A n c Wa m wc lf dn La lm lc ls (by assumption) (by assumption) (by assumption) (by assumption) (by assumption)) [0, 0, 0] ((Lend.nil _).tells 0 (vw La (chV ls)) La (chV ls) (by kernel_rfl) (tells_vw _ _)) ?_)
  rintro _ _ ⟨ix2, rfl, rfl, hp3⟩
  refine RunR.sl hU [] 2 5 [4] [(4, .bool (decide (ix2 ≥ 0)))] 2 ?_
  refine RunR.nn ?_
  refine RunC.ret ?_
  refine kret_r [.bool (decide (ix2 ≥ 0))] [0, 0, 0] [blk bx 32 [pt wj], blk wj 72 [pt d], blk d 70 [.slice A n c, .slice Wa m wc, .int .i64 lf, .bool dn]] ⟨rfl, trivial⟩ (by kernel_rfl) rfl ⟨(by (exact congrArg Value.bool (decide_eq_decide.2 hp3))), (by rfl)⟩

theorem wl_Commit_spec (wj : Nat) (d : Nat) (A : Option Addr) (n : Nat) (c : Nat) (ss : List Int) (Wa : Option Addr) (m : Nat) (wc : Nat) (ws : List Ch) (lf : Int) (dn : Bool) (La : Option Addr) (lm : Nat) (lc : Nat) (ls : List Ch) (hss : In .u8 ss) (hnl : ss.length = n) (hnc : n ≤ c) (hAs : 0 < n → Option.isSome A = true) (hn6 : n % 256 = 0) (hnb : n ≤ 557056) (hml : ws.length = m) (hmb : m ≤ 800000) (hok : ChOK .u8 ws) (hwk : WOK n ws) (hWs : 0 < m → Option.isSome Wa = true) (hlf : 0 ≤ lf ∧ lf < 9223372036854775808) (hll : ls.length = lm) (hlb : lm ≤ 1000000) (hlok : ChOK .u8 ls) (hn43 : 256 * 43 ≤ n) :
    CallsS Try.prog 16 [pt wj, .slice La lm lc] [blk wj 72 [pt d], blk d 70 [.slice A n c, .slice Wa m wc, .int .i64 lf, .bool dn], row 5 1 (.slice A n c) n (nums .u8 ss), row 51 2 (.slice Wa m wc) m (chV ws), chd .u8 ws, vw La (chV ls), vws (chL ls)] (fun r D => ∃ (e : Int) (ss2 : List Int) (Wb : Option Addr) (m2 : Nat) (wc2 : Nat) (ws2 : List Ch) (lf3 : Int) (dn3 : Bool), r = .int .i64 e ∧ D = [blk wj 72 [pt d], blk d 70 [.slice A n c, .slice Wb m2 wc2, .int .i64 lf3, .bool dn3], row 5 1 (.slice A n c) n (nums .u8 ss2), row 51 2 (.slice Wb m2 wc2) m2 (chV ws2), chd .u8 ws2] ∧ ((e, ss2, dat ws2, lf3, dn3) = commitP n ss (dat ws) lf dn ls) ∧ (In .u8 ss2) ∧ (ss2.length = n) ∧ (ws2.length = m2) ∧ (m2 ≤ m + 82) ∧ (ChOK .u8 ws2) ∧ (WOK n ws2) ∧ (0 < m2 → Option.isSome Wb = true) ∧ (0 ≤ lf3 ∧ lf3 < 9223372036854775808)) := by
  refine CallsS.enter hU Try.f16 _ [.tmp 4] 40 Try.func16 rfl (by decide) rfl rfl (by kernel_rfl) fun w0 W => ?_
  refine RunC.know (p := 0 < ls.length * 2 → Option.isSome La = true) (fun _ _ w hs => vw_some hs 5 rfl (by exact chV_len _)) (fun hA1 => ?_)
  refine RunC.sr ?_
  refine RunR.st (some 2) (.box 32 (.tmp 0)) (Step.box (pt wj) (by kernel_rfl) (by kernel_rfl) (fun b2 => ?_))
  refine RunR.sl hU [] 1 2 [1, 2, 4] [(1, .slice La lm lc), (2, pt b2), (4, .int .i64 0)] 1 ?_
  refine RunR.nn ?_
  refine RunC.seq ?_
  refine RunC.sr ?_
  refine RunR.sl hU [] 4 4 [1, 2, 4, 9] [(1, .slice La lm lc), (2, pt b2), (4, .int .i64 0), (9, .bool (decide (((lm : Nat) : Int) > 40)))] 4 ?_
  refine RunR.ev [1, 2, 4, 9] [(1, .slice La lm lc), (2, pt b2), (4, .int .i64 0), (9, .bool (decide (((lm : Nat) : Int) > 40)))] ?_
  by_cases h3 : ((lm : Nat) : Int) > 40
  · skip
    refine RunR.enveq [(1, .slice La lm lc), (2, pt b2), (4, .int .i64 0), (9, .bool true)] (by rw [decide_eq_true h3]; try rfl) ?_
    refine RunR.sl hU [] 4 8 [1, 2, 4, 13] [(1, .slice La lm lc), (2, pt b2), (4, .int .i64 0), (13, .bool true)] 1 ?_
    refine RunR.nn ?_
    refine RunC.cond (b := true) (by kernel_rfl) (fun _ => ?_) (fun h => by cases h)
    refine RunC.sr ?_
    refine RunR.sl hU [] 1 1 [1, 2, 4] [(1, .slice La lm lc), (2, pt b2), (4, .int .i64 1)] 1 ?_
    refine RunR.nn ?_
    refine RunC.ret ?_
    refine kseq_r ?_
    refine kret_r [.int .i64 1] [1, 1, 1, 1, 1] [blk wj 72 [pt d], blk d 70 [.slice A n c, .slice Wa m wc, .int .i64 lf, .bool dn], row 5 1 (.slice A n c) n (nums .u8 ss), row 51 2 (.slice Wa m wc) m (chV ws), chd .u8 ws] ⟨rfl, trivial⟩ (by kernel_rfl) rfl ⟨1, ss, Wa, m, wc, ws, lf, dn, rfl, rfl, (by exact commit_bad (fun h => by omega)), (by assumption), (by assumption), (by assumption), (by omega), (by assumption), (by assumption), (by assumption), (by assumption)⟩
  · skip
    refine RunR.enveq [(1, .slice La lm lc), (2, pt b2), (4, .int .i64 0), (9, .bool false)] (by rw [decide_eq_false h3]; try rfl) ?_
    refine RunR.sl hU [] 2 6 [1, 2, 4, 9, 10, 11] [(1, .slice La lm lc), (2, pt b2), (4, .int .i64 0), (9, .bool false), (10, .slice La lm lc), (11, .func (.func 45) #[] #[pt b2])] 2 ?_
    refine RunR.st (some 12) (.call { callee := .value (.func 44), args := #[.tmp 10, .tmp 11], argTypes := #[28, 80] }) (Step.cl 44 [.slice La lm lc, .func (.func 45) #[] #[pt b2]] [blk b2 32 [pt wj], blk wj 72 [pt d], blk d 70 [.slice A n c, .slice Wa m wc, .int .i64 lf, .bool dn]] [vw La (chV ls)] [row 5 1 (.slice A n c) n (nums .u8 ss), row 51 2 (.slice Wa m wc) m (chV ws), chd .u8 ws, vw La (chV ls), vws (chL ls)] (wl_Contains_spec b2 wj d A n c Wa m wc lf dn La lm lc ls (by assumption) (by assumption) (by assumption) (by assumption) (by assumption)) [0, 0, 0] ((Lend.nil _).tells 3 (vw La (chV ls)) La (chV ls) (by kernel_rfl) (tells_vw _ _)) ?_)
    rintro _ _ ⟨rfl, rfl⟩
    refine RunR.sl hU [] 1 8 [1, 2, 4, 13] [(1, .slice La lm lc), (2, pt b2), (4, .int .i64 0), (13, .bool (decide (¬ BOK n ls)))] 1 ?_
    refine RunR.nn ?_
    refine RunC.condp (¬ BOK n ls) (by kernel_rfl) (fun h4 => ?_) (fun h4 => ?_)
    · skip
      refine RunC.sr ?_
      refine RunR.sl hU [] 1 1 [1, 2, 4] [(1, .slice La lm lc), (2, pt b2), (4, .int .i64 1)] 1 ?_
      refine RunR.nn ?_
      refine RunC.ret ?_
      refine kseq_r ?_
      refine kret_r [.int .i64 1] [1, 1, 1, 1, 1] [blk wj 72 [pt d], blk d 70 [.slice A n c, .slice Wa m wc, .int .i64 lf, .bool dn], row 5 1 (.slice A n c) n (nums .u8 ss), row 51 2 (.slice Wa m wc) m (chV ws), chd .u8 ws] ⟨rfl, trivial⟩ (by kernel_rfl) rfl ⟨1, ss, Wa, m, wc, ws, lf, dn, rfl, rfl, (by exact commit_bad (fun h => absurd h.2 (by assumption))), (by assumption), (by assumption), (by assumption), (by omega), (by assumption), (by assumption), (by assumption), (by assumption)⟩
    · skip
      refine RunC.ksr ?_
      refine RunR.st (some 14) (.load 32 (.tmp 2)) (Step.load_blk hU 0 b2 (0) 32 [pt wj] (pt wj) (by kernel_rfl) (by kernel_rfl) (by kernel_rfl) (by kernel_rfl) ?_)
      refine RunR.sl hU [] 2 3 [1, 2, 4, 16] [(1, .slice La lm lc), (2, pt b2), (4, .int .i64 0), (16, pt wj)] 2 ?_
      refine RunR.st (some 17) (.load 30 (.tmp 16)) (Step.load_blk hU 1 wj (0) 72 [pt d] (pt d) (by kernel_rfl) (by kernel_rfl) (by kernel_rfl) (by kernel_rfl) ?_)
      refine RunR.sl hU [] 2 6 [1, 2, 4, 19] [(1, .slice La lm lc), (2, pt b2), (4, .int .i64 0), (19, .agg #[pt d, .slice La lm lc])] 2 ?_
      refine RunR.st (some 20) (.box 76 (.tmp 19)) (Step.box (.agg #[pt d, .slice La lm lc]) (by kernel_rfl) (by kernel_rfl) (fun b5 => ?_))
      refine RunR.sl hU [] 1 8 [1, 2, 4, 5] [(1, .slice La lm lc), (2, pt b2), (4, .int .i64 0), (5, pt b5)] 1 ?_
      refine RunR.nn ?_
      refine RunC.seq ?_
      refine RunC.sr ?_
      refine RunR.sl hU [] 3 3 [2, 4, 5, 23] [(2, pt b2), (4, .int .i64 0), (5, pt b5), (23, .bool (decide (((lm : Nat) : Int) = 0)))] 3 ?_
      refine RunR.nn ?_
      refine RunC.condp (((lm : Nat) : Int) = 0) (by kernel_rfl) (fun h6 => ?_) (fun h6 => ?_)
      · skip
        refine RunC.sr ?_
        refine RunR.st (some 24) (.load 32 (.tmp 2)) (Step.load_blk hU 1 b2 (0) 32 [pt wj] (pt wj) (by kernel_rfl) (by kernel_rfl) (by kernel_rfl) (by kernel_rfl) ?_)
        refine RunR.sl hU [] 2 3 [4, 5, 26] [(4, .int .i64 0), (5, pt b5), (26, pt wj)] 2 ?_
        refine RunR.st (some 27) (.load 30 (.tmp 26)) (Step.load_blk hU 2 wj (0) 72 [pt d] (pt d) (by kernel_rfl) (by kernel_rfl) (by kernel_rfl) (by kernel_rfl) ?_)
        refine RunR.st (some 28) (.call { callee := .value (.func 47), args := #[.tmp 27], argTypes := #[30] }) (Step.cn 47 [pt d] [blk d 70 [.slice A n c, .slice Wa m wc, .int .i64 lf, .bool dn], row 5 1 (.slice A n c) n (nums .u8 ss), row 51 2 (.slice Wa m wc) m (chV ws), chd .u8 ws] [blk b5 76 [pt d, .slice La lm lc], blk b2 32 [pt wj], blk wj 72 [pt d], vw La (chV ls), vws (chL ls)] (d_Sync_spec d A n c ss Wa m wc ws lf dn hss (by assumption) (by assumption) (fun h => hAs (by exact h)) (by assumption) (by assumption) (by assumption) (by omega) (by assumption) (by assumption) (fun h => hWs (by exact h)) (by assumption)) [3, 3, 3, 3] ?_)
        rintro _ _ ⟨e7, ss28, Wb9, m210, wc211, ws212, lf313, dn314, rfl, rfl, hp15, hp16, hp17, hp18, hp19, hp20, hp21, hp22, hp23⟩
        refine RunR.sl hU [] 1 6 [4, 5] [(4, .int .i64 e7), (5, pt b5)] 1 ?_
        refine RunR.nn ?_
        refine RunC.ret ?_
        refine kseq_r ?_
        refine kret_r [.int .i64 e7] [6, 0, 0, 0, 0] [blk wj 72 [pt d], blk d 70 [.slice A n c, .slice Wb9 m210 wc211, .int .i64 lf313, .bool dn314], row 5 1 (.slice A n c) n (nums .u8 ss28), row 51 2 (.slice Wb9 m210 wc211) m210 (chV ws212), chd .u8 ws212] ⟨rfl, trivial⟩ (by kernel_rfl) rfl ⟨e7, ss28, Wb9, m210, wc211, ws212, lf313, dn314, rfl, rfl, (by exact commit_sync (by exact Decidable.not_not.1 (by assumption)) (by omega) (by assumption)), (by assumption), (by assumption), (by assumption), (by omega), (by assumption), (by assumption), (by assumption), (by assumption)⟩
      · skip
        refine RunC.ksr ?_
        refine RunR.sl hU [] 9 9 [4, 29, 31, 33, 35, 37] [(4, .int .i64 0), (29, pt b5), (31, .func (.func 48) #[pt b5] #[]), (33, .func (.func 49) #[pt b5] #[]), (35, .func (.func 42) #[pt b5] #[]), (37, .func (.func 43) #[pt b5] #[])] 9 ?_
        refine RunR.st (some 38) (.buildSlice 99 4 #[(0, .tmp 31), (1, .tmp 33), (2, .tmp 35), (3, .tmp 37)]) (Step.lit_vals hU 52 8 (.nilFunc) [.func (.func 48) #[pt b5] #[], .func (.func 49) #[pt b5] #[], .func (.func 42) #[pt b5] #[], .func (.func 43) #[pt b5] #[]] (by kernel_rfl) (by kernel_rfl) (by kernel_rfl) (by simp [Value.cells]) rfl rfl (by kernel_rfl) (fun b24 => ?_))
        refine RunR.st (some 39) (.call { callee := .value (.func 41), args := #[.tmp 29, .tmp 38], argTypes := #[73, 99] }) (Step.cl 41 [pt b5, .slice (some ⟨b24, 0, none⟩) 4 4] [blk b5 76 [pt d, .slice La lm lc], blk d 70 [.slice A n c, .slice Wa m wc, .int .i64 lf, .bool dn], row 5 1 (.slice A n c) n (nums .u8 ss), row 51 2 (.slice Wa m wc) m (chV ws), chd .u8 ws] [vw (some ⟨b24, 0, none⟩) [.func (.func 48) #[pt b5] #[], .func (.func 49) #[pt b5] #[], .func (.func 42) #[pt b5] #[], .func (.func 43) #[pt b5] #[]], vw La (chV ls), vws (chL ls)] [row 52 1 (.slice (some ⟨b24, 0, none⟩) 4 4) 4 [.func (.func 48) #[pt b5] #[], .func (.func 49) #[pt b5] #[], .func (.func 42) #[pt b5] #[], .func (.func 43) #[pt b5] #[]], blk b2 32 [pt wj], blk wj 72 [pt d], vw La (chV ls), vws (chL ls)] (wl_phases4_spec b5 d A n c ss Wa m wc ws lf dn La lm lc ls (some ⟨b24, 0, none⟩) 4 hss (by assumption) (by assumption) (fun h => hAs (by exact h)) (by assumption) (by assumption) (by assumption) (by assumption) (by assumption) (by assumption) (fun h => hWs (by exact h)) (by assumption) (by assumption) (by omega) (by assumption) (by exact Decidable.not_not.1 (by assumption)) (by assumption)) [1, 3, 3, 3, 3] ((((Lend.nil _).same 4 (vws (chL ls)) (by kernel_rfl) rfl).tells 3 (vw La (chV ls)) La (chV ls) (by kernel_rfl) (tells_vw _ _)).tells 0 (row 52 1 (.slice (some ⟨b24, 0, none⟩) 4 4) 4 [.func (.func 48) #[pt b5] #[], .func (.func 49) #[pt b5] #[], .func (.func 42) #[pt b5] #[], .func (.func 43) #[pt b5] #[]]) (some ⟨b24, 0, none⟩) [.func (.func 48) #[pt b5] #[], .func (.func 49) #[pt b5] #[], .func (.func 42) #[pt b5] #[], .func (.func 43) #[pt b5] #[]] (by kernel_rfl) (tells_row _ _ _ _ _ _)) ?_)
        rintro _ _ ⟨e25, ss226, Wb27, m228, wc229, ws230, lf331, dn332, rfl, rfl, hp33, hp34, hp35, hp36, hp37, hp38, hp39, hp40, hp41⟩
        refine RunR.sl hU [] 1 12 [4] [(4, .int .i64 e25)] 1 ?_
        refine RunR.nn ?_
        refine RunC.ret ?_
        refine kret_r [.int .i64 e25] [7, 1, 1, 1, 1] [blk wj 72 [pt d], blk d 70 [.slice A n c, .slice Wb27 m228 wc229, .int .i64 lf331, .bool dn332], row 5 1 (.slice A n c) n (nums .u8 ss226), row 51 2 (.slice Wb27 m228 wc229) m228 (chV ws230), chd .u8 ws230] ⟨rfl, trivial⟩ (by kernel_rfl) rfl ⟨e25, ss226, Wb27, m228, wc229, ws230, lf331, dn332, rfl, rfl, (by exact commit_go (by exact Decidable.not_not.1 (by assumption)) (by omega) (by omega) (by assumption)), (by assumption), (by assumption), (by assumption), (by omega), (by assumption), (by assumption), (by assumption), (by assumption)⟩
end Go.Proofs.Ytaaplakahkgclaa.X9
