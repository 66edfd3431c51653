/- What these functions compute: a contract for each, walked through its code. -/
import Derived.Test.YtaaplakahkgclaaSLzk
import Derived.Test.YtaaplakahkgclaaBPure
import Derived.Test.YtaaplakahkgclaaProg
import Derived.Test.YtaaplakahkgclaaX1
import Derived.Test.YtaaplakahkgclaaX2
import Derived.Test.YtaaplakahkgclaaX3
import Derived.Test.YtaaplakahkgclaaX4
import Derived.Test.YtaaplakahkgclaaX5
namespace Go.Proofs.Ytaaplakahkgclaa.X6
open Go Go.Proofs.Ytaaplakahkgclaa.SL Go.Proofs.Ytaaplakahkgclaa.SL.W Go.Proofs.Ytaaplakahkgclaa.SL.D Go.Proofs.Ytaaplakahkgclaa.X1 Go.Proofs.Ytaaplakahkgclaa.X2 Go.Proofs.Ytaaplakahkgclaa.X3 Go.Proofs.Ytaaplakahkgclaa.X4 Go.Proofs.Ytaaplakahkgclaa.X5
set_option linter.unusedVariables false
set_option linter.unusedSimpArgs false
set_option maxRecDepth 100000
set_option maxHeartbeats 40000000
def U : Tab where
  und := [(3, .int .i64), (4, .bool), (5, .int .u8), (23, .slice 5), (28, .slice 51), (30, .pointer 70), (50, .struct #[{ name := "Block", type := 3, offset := 0, embedded := false, tag := "", pkgPath := "", byteOffset := 0 }, { name := "Data", type := 23, offset := 1, embedded := false, tag := "", pkgPath := "", byteOffset := 8 }]), (51, .struct #[{ name := "Block", type := 3, offset := 0, embedded := false, tag := "", pkgPath := "", byteOffset := 0 }, { name := "Data", type := 23, offset := 1, embedded := false, tag := "", pkgPath := "", byteOffset := 8 }]), (69, .struct #[{ name := "safe", type := 23, offset := 0, embedded := false, tag := "", pkgPath := "orlop/disk", byteOffset := 0 }, { name := "wait", type := 28, offset := 1, embedded := false, tag := "", pkgPath := "orlop/disk", byteOffset := 24 }, { name := "left", type := 3, offset := 2, embedded := false, tag := "", pkgPath := "orlop/disk", byteOffset := 48 }, { name := "down", type := 4, offset := 3, embedded := false, tag := "", pkgPath := "orlop/disk", byteOffset := 56 }]), (70, .struct #[{ name := "safe", type := 23, offset := 0, embedded := false, tag := "", pkgPath := "orlop/disk", byteOffset := 0 }, { name := "wait", type := 28, offset := 1, embedded := false, tag := "", pkgPath := "orlop/disk", byteOffset := 24 }, { name := "left", type := 3, offset := 2, embedded := false, tag := "", pkgPath := "orlop/disk", byteOffset := 48 }, { name := "down", type := 4, offset := 3, embedded := false, tag := "", pkgPath := "orlop/disk", byteOffset := 56 }]), (71, .struct #[{ name := "d", type := 30, offset := 0, embedded := false, tag := "", pkgPath := "orlop/wal", byteOffset := 0 }]), (72, .struct #[{ name := "d", type := 30, offset := 0, embedded := false, tag := "", pkgPath := "orlop/wal", byteOffset := 0 }])]
  fld := [((50, 0), (0, 3)), ((50, 1), (1, 23)), ((51, 0), (0, 3)), ((51, 1), (1, 23)), ((69, 0), (0, 23)), ((69, 1), (1, 28)), ((69, 2), (2, 3)), ((69, 3), (3, 4)), ((70, 0), (0, 23)), ((70, 1), (1, 28)), ((70, 2), (2, 3)), ((70, 3), (3, 4)), ((71, 0), (0, 30)), ((72, 0), (0, 30))]
  sz := [(3, 1), (4, 1), (5, 1), (23, 1), (28, 1), (30, 1), (50, 2), (51, 2), (69, 4), (70, 4), (71, 1), (72, 1)]
  ti := [(3, (1, 8, .int .i64 0)), (4, (1, 1, .bool false)), (5, (1, 1, .int .u8 0)), (23, (1, 24, .slice none 0 0)), (28, (1, 24, .slice none 0 0)), (30, (1, 8, .pointer none)), (50, (2, 32, .agg #[.int .i64 0, .slice none 0 0])), (51, (2, 32, .agg #[.int .i64 0, .slice none 0 0])), (69, (4, 64, .agg #[.slice none 0 0, .slice none 0 0, .int .i64 0, .bool false])), (70, (4, 64, .agg #[.slice none 0 0, .slice none 0 0, .int .i64 0, .bool false])), (71, (1, 8, .agg #[.pointer none])), (72, (1, 8, .agg #[.pointer none]))]
  bld := [(50, [(0, 1), (1, 1)]), (51, [(0, 1), (1, 1)]), (69, [(0, 1), (1, 1), (2, 1), (3, 1)]), (70, [(0, 1), (1, 1), (2, 1), (3, 1)]), (71, [(0, 1)]), (72, [(0, 1)])]

theorem hU : U.OK Try.prog where
  und := by
    intro p hp
    simp only [U, List.mem_cons, List.not_mem_nil, or_false] at hp
    rcases hp with rfl | rfl | rfl | rfl | rfl | rfl | rfl | rfl | rfl | rfl | rfl | rfl
    · exact Try.underlying3
    · exact Try.underlying4
    · exact Try.underlying5
    · exact Try.underlying23
    · exact Try.underlying28
    · exact Try.underlying30
    · exact Try.underlying50
    · exact Try.underlying51
    · exact Try.underlying69
    · exact Try.underlying70
    · exact Try.underlying71
    · exact Try.underlying72
  fld := by
    intro p hp
    simp only [U, List.mem_cons, List.not_mem_nil, or_false] at hp
    rcases hp with rfl | rfl | rfl | rfl | rfl | rfl | rfl | rfl | rfl | rfl | rfl | rfl | rfl | rfl
    · exact ⟨_, _, Try.underlying50, rfl, rfl, rfl, Try.prog.types[3]!, by kernel_rfl, by decide +kernel⟩
    · exact ⟨_, _, Try.underlying50, rfl, rfl, rfl, Try.prog.types[23]!, by kernel_rfl, by decide +kernel⟩
    · exact ⟨_, _, Try.underlying51, rfl, rfl, rfl, Try.prog.types[3]!, by kernel_rfl, by decide +kernel⟩
    · exact ⟨_, _, Try.underlying51, rfl, rfl, rfl, Try.prog.types[23]!, by kernel_rfl, by decide +kernel⟩
    · exact ⟨_, _, Try.underlying69, rfl, rfl, rfl, Try.prog.types[23]!, by kernel_rfl, by decide +kernel⟩
    · exact ⟨_, _, Try.underlying69, rfl, rfl, rfl, Try.prog.types[28]!, by kernel_rfl, by decide +kernel⟩
    · exact ⟨_, _, Try.underlying69, rfl, rfl, rfl, Try.prog.types[3]!, by kernel_rfl, by decide +kernel⟩
    · exact ⟨_, _, Try.underlying69, rfl, rfl, rfl, Try.prog.types[4]!, by kernel_rfl, by decide +kernel⟩
    · exact ⟨_, _, Try.underlying70, rfl, rfl, rfl, Try.prog.types[23]!, by kernel_rfl, by decide +kernel⟩
    · exact ⟨_, _, Try.underlying70, rfl, rfl, rfl, Try.prog.types[28]!, by kernel_rfl, by decide +kernel⟩
    · exact ⟨_, _, Try.underlying70, rfl, rfl, rfl, Try.prog.types[3]!, by kernel_rfl, by decide +kernel⟩
    · exact ⟨_, _, Try.underlying70, rfl, rfl, rfl, Try.prog.types[4]!, by kernel_rfl, by decide +kernel⟩
    · exact ⟨_, _, Try.underlying71, rfl, rfl, rfl, Try.prog.types[30]!, by kernel_rfl, by decide +kernel⟩
    · exact ⟨_, _, Try.underlying72, rfl, rfl, rfl, Try.prog.types[30]!, by kernel_rfl, by decide +kernel⟩
  sz := by
    intro p hp
    simp only [U, List.mem_cons, List.not_mem_nil, or_false] at hp
    rcases hp with rfl | rfl | rfl | rfl | rfl | rfl | rfl | rfl | rfl | rfl | rfl | rfl
    · exact ⟨Try.prog.types[3]!, by kernel_rfl, by kernel_rfl⟩
    · exact ⟨Try.prog.types[4]!, by kernel_rfl, by kernel_rfl⟩
    · exact ⟨Try.prog.types[5]!, by kernel_rfl, by kernel_rfl⟩
    · exact ⟨Try.prog.types[23]!, by kernel_rfl, by kernel_rfl⟩
    · exact ⟨Try.prog.types[28]!, by kernel_rfl, by kernel_rfl⟩
    · exact ⟨Try.prog.types[30]!, by kernel_rfl, by kernel_rfl⟩
    · exact ⟨Try.prog.types[50]!, by kernel_rfl, by kernel_rfl⟩
    · exact ⟨Try.prog.types[51]!, by kernel_rfl, by kernel_rfl⟩
    · exact ⟨Try.prog.types[69]!, by kernel_rfl, by kernel_rfl⟩
    · exact ⟨Try.prog.types[70]!, by kernel_rfl, by kernel_rfl⟩
    · exact ⟨Try.prog.types[71]!, by kernel_rfl, by kernel_rfl⟩
    · exact ⟨Try.prog.types[72]!, by kernel_rfl, by kernel_rfl⟩
  ti := by
    intro p hp
    simp only [U, List.mem_cons, List.not_mem_nil, or_false] at hp
    rcases hp with rfl | rfl | rfl | rfl | rfl | rfl | rfl | rfl | rfl | rfl | rfl | rfl
    · exact ⟨Try.prog.types[3]!, by kernel_rfl, by kernel_rfl, by kernel_rfl, by kernel_rfl⟩
    · exact ⟨Try.prog.types[4]!, by kernel_rfl, by kernel_rfl, by kernel_rfl, by kernel_rfl⟩
    · exact ⟨Try.prog.types[5]!, by kernel_rfl, by kernel_rfl, by kernel_rfl, by kernel_rfl⟩
    · exact ⟨Try.prog.types[23]!, by kernel_rfl, by kernel_rfl, by kernel_rfl, by kernel_rfl⟩
    · exact ⟨Try.prog.types[28]!, by kernel_rfl, by kernel_rfl, by kernel_rfl, by kernel_rfl⟩
    · exact ⟨Try.prog.types[30]!, by kernel_rfl, by kernel_rfl, by kernel_rfl, by kernel_rfl⟩
    · exact ⟨Try.prog.types[50]!, by kernel_rfl, by kernel_rfl, by kernel_rfl, by kernel_rfl⟩
    · exact ⟨Try.prog.types[51]!, by kernel_rfl, by kernel_rfl, by kernel_rfl, by kernel_rfl⟩
    · exact ⟨Try.prog.types[69]!, by kernel_rfl, by kernel_rfl, by kernel_rfl, by kernel_rfl⟩
    · exact ⟨Try.prog.types[70]!, by kernel_rfl, by kernel_rfl, by kernel_rfl, by kernel_rfl⟩
    · exact ⟨Try.prog.types[71]!, by kernel_rfl, by kernel_rfl, by kernel_rfl, by kernel_rfl⟩
    · exact ⟨Try.prog.types[72]!, by kernel_rfl, by kernel_rfl, by kernel_rfl, by kernel_rfl⟩
  bld := by
    intro p hp
    simp only [U, List.mem_cons, List.not_mem_nil, or_false] at hp
    rcases hp with rfl | rfl | rfl | rfl | rfl | rfl
    · exact ⟨_, Try.underlying50, by kernel_rfl⟩
    · exact ⟨_, Try.underlying51, by kernel_rfl⟩
    · exact ⟨_, Try.underlying69, by kernel_rfl⟩
    · exact ⟨_, Try.underlying70, by kernel_rfl⟩
    · exact ⟨_, Try.underlying71, by kernel_rfl⟩
    · exact ⟨_, Try.underlying72, by kernel_rfl⟩
  mixed := by kernel_rfl

theorem wl_place_spec (b : Int) (hb : 0 ≤ b ∧ b ≤ 4294967296) :
    CallsS Try.prog 53 [.int .i64 b] [] (fun r D => r = .int .i64 (42 + b) ∧ D = []) := by
  refine CallsS.enter hU Try.f53 _ [.tmp 2] 5 Try.func53 rfl (by decide) rfl rfl (by kernel_rfl) fun w0 W => ?_
  refine RunC.sr ?_
  refine RunR.sl hU [] 1 1 [0, 2] [(0, .int .i64 b), (2, .int .i64 0)] 1 ?_
  refine RunR.nx ?_
  refine RunR.sil hU [1] 3 3 [2] [(2, .int .i64 (42 + b))] ((True) ∧ (-9223372036854775808 ≤ (42 + b) ∧ (42 + b) < 9223372036854775808) ∧ (True) ∧ True) rfl (by kernel_rfl) ⟨trivial, (by omega), trivial, trivial⟩ ?_
  refine RunR.nn ?_
  refine RunC.ret ?_
  refine kret_r [.int .i64 (42 + b)] [] [] ⟨rfl, trivial⟩ (by kernel_rfl) rfl ⟨rfl, rfl⟩

theorem wl_Blocks_spec (wj : Nat) (d : Nat) (A : Option Addr) (n : Nat) (c : Nat) (Wa : Option Addr) (m : Nat) (wc : Nat) (lf : Int) (dn : Bool) (hn6 : n % 256 = 0) (hnb : n ≤ 557056) :
    CallsS Try.prog 29 [pt wj] [blk wj 72 [pt d], blk d 70 [.slice A n c, .slice Wa m wc, .int .i64 lf, .bool dn]] (fun r D => r = .int .i64 (((n : Nat) : Int) / 256 - 42) ∧ D = [blk wj 72 [pt d], blk d 70 [.slice A n c, .slice Wa m wc, .int .i64 lf, .bool dn]]) := by
  refine CallsS.enter hU Try.f29 _ [.tmp 2] 9 Try.func29 rfl (by decide) rfl rfl (by kernel_rfl) fun w0 W => ?_
  refine RunC.sr ?_
  refine RunR.sl hU [] 1 1 [0, 2] [(0, pt wj), (2, .int .i64 0)] 1 ?_
  refine RunR.nx ?_
  refine RunR.sl hU [] 3 3 [2, 5] [(2, .int .i64 0), (5, pt wj)] 3 ?_
  refine RunR.st (some 6) (.load 30 (.tmp 5)) (Step.load_blk hU 0 wj (0) 72 [pt d] (pt d) (by kernel_rfl) (by kernel_rfl) (by kernel_rfl) (by kernel_rfl) ?_)
  refine RunR.st (some 7) (.call { callee := .value (.func 54), args := #[.tmp 6], argTypes := #[30] }) (Step.cn 54 [pt d] [blk d 70 [.slice A n c, .slice Wa m wc, .int .i64 lf, .bool dn]] [blk wj 72 [pt d]] (d_Blocks_spec d A n c Wa m wc lf dn (by assumption) (by assumption)) [1] ?_)
  rintro _ _ ⟨rfl, rfl⟩
  refine RunR.sil hU [5] 2 7 [2] [(2, .int .i64 ((((n : Nat) : Int) / 256) - 42))] ((-9223372036854775808 ≤ ((((n : Nat) : Int) / 256) - 42) ∧ ((((n : Nat) : Int) / 256) - 42) < 9223372036854775808) ∧ (True) ∧ True) rfl (by kernel_rfl) ⟨(by omega), trivial, trivial⟩ ?_
  refine RunR.nn ?_
  refine RunC.ret ?_
  refine kret_r [.int .i64 ((((n : Nat) : Int) / 256) - 42)] [1, 0] [blk wj 72 [pt d], blk d 70 [.slice A n c, .slice Wa m wc, .int .i64 lf, .bool dn]] ⟨rfl, trivial⟩ (by kernel_rfl) rfl ⟨rfl, rfl⟩

theorem wl_there_spec (wj : Nat) (d : Nat) (A : Option Addr) (n : Nat) (c : Nat) (Wa : Option Addr) (m : Nat) (wc : Nat) (lf : Int) (dn : Bool) (b : Int) (hn6 : n % 256 = 0) (hnb : n ≤ 557056) :
    CallsS Try.prog 46 [pt wj, .int .i64 b] [blk wj 72 [pt d], blk d 70 [.slice A n c, .slice Wa m wc, .int .i64 lf, .bool dn]] (fun r D => r = .bool (decide (0 ≤ b ∧ 256 * (42 + b) + 256 ≤ (n : Int))) ∧ D = [blk wj 72 [pt d], blk d 70 [.slice A n c, .slice Wa m wc, .int .i64 lf, .bool dn]]) := by
  refine CallsS.enter hU Try.f46 _ [.tmp 4] 13 Try.func46 rfl (by decide) rfl rfl (by kernel_rfl) fun w0 W => ?_
  refine RunC.sr ?_
  refine RunR.sl hU [] 1 1 [0, 1, 4] [(0, pt wj), (1, .int .i64 b), (4, .bool false)] 1 ?_
  refine RunR.nx ?_
  refine RunR.sl hU [] 3 3 [0, 1, 4, 7] [(0, pt wj), (1, .int .i64 b), (4, .bool false), (7, .bool (decide (b ≥ 0)))] 3 ?_
  refine RunR.ev [0, 1, 4, 7] [(0, pt wj), (1, .int .i64 b), (4, .bool false), (7, .bool (decide (b ≥ 0)))] ?_
  by_cases h1 : b ≥ 0
  · skip
    refine RunR.enveq [(0, pt wj), (1, .int .i64 b), (4, .bool false), (7, .bool true)] (by rw [decide_eq_true h1]; try rfl) ?_
    refine RunR.sl hU [] 2 5 [4, 7, 8, 9] [(4, .bool false), (7, .bool true), (8, .int .i64 b), (9, pt wj)] 2 ?_
    refine RunR.st (some 10) (.call { callee := .value (.func 29), args := #[.tmp 9], argTypes := #[32] }) (Step.cn 29 [pt wj] [blk wj 72 [pt d], blk d 70 [.slice A n c, .slice Wa m wc, .int .i64 lf, .bool dn]] [] (wl_Blocks_spec wj d A n c Wa m wc lf dn (by assumption) (by assumption)) [0, 0] ?_)
    rintro _ _ ⟨rfl, rfl⟩
    refine RunR.sl hU [] 3 9 [4] [(4, .bool (decide (b < (((n : Nat) : Int) / 256 - 42))))] 3 ?_
    refine RunR.nn ?_
    refine RunC.ret ?_
    refine kret_r [.bool (decide (b < (((n : Nat) : Int) / 256 - 42)))] [0, 0] [blk wj 72 [pt d], blk d 70 [.slice A n c, .slice Wa m wc, .int .i64 lf, .bool dn]] ⟨rfl, trivial⟩ (by kernel_rfl) rfl ⟨(by (exact congrArg Value.bool (decide_eq_decide.2 (by omega)))), (by rfl)⟩
  · skip
    refine RunR.enveq [(0, pt wj), (1, .int .i64 b), (4, .bool false), (7, .bool false)] (by rw [decide_eq_false h1]; try rfl) ?_
    refine RunR.sl hU [] 6 9 [4] [(4, .bool false)] 2 ?_
    refine RunR.nn ?_
    refine RunC.ret ?_
    refine kret_r [.bool false] [0, 0] [blk wj 72 [pt d], blk d 70 [.slice A n c, .slice Wa m wc, .int .i64 lf, .bool dn]] ⟨rfl, trivial⟩ (by kernel_rfl) rfl ⟨(by (exact congrArg Value.bool (decide_eq_false (by omega)).symm)), (by rfl)⟩

theorem wl_Read_spec (wj : Nat) (d : Nat) (A : Option Addr) (n : Nat) (c : Nat) (ss : List Int) (Wa : Option Addr) (m : Nat) (wc : Nat) (ws : List Ch) (lf : Int) (dn : Bool) (b : Int) (hss : In .u8 ss) (hnl : ss.length = n) (hnc : n ≤ c) (hAs : 0 < n → Option.isSome A = true) (hn6 : n % 256 = 0) (hnb : n ≤ 557056) (hml : ws.length = m) (hmb : m ≤ 900000) (hok : ChOK .u8 ws) (hwk : WOK n ws) (hWs : 0 < m → Option.isSome Wa = true) (hb : fits .i64 b) :
    CallsS Try.prog 30 [pt wj, .int .i64 b] [blk wj 72 [pt d], blk d 70 [.slice A n c, .slice Wa m wc, .int .i64 lf, .bool dn], row 5 1 (.slice A n c) n (nums .u8 ss), row 51 2 (.slice Wa m wc) m (chV ws), chd .u8 ws] (fun r D => ∃ (A9 : Option Addr) (c9 : Nat) (zs : List Int) (e : Int), r = .tuple #[.slice A9 zs.length c9, .int .i64 e] ∧ D = [row 5 1 (.slice A9 zs.length c9) zs.length (nums .u8 zs), blk wj 72 [pt d], blk d 70 [.slice A n c, .slice Wa m wc, .int .i64 lf, .bool dn], row 5 1 (.slice A n c) n (nums .u8 ss), row 51 2 (.slice Wa m wc) m (chV ws), chd .u8 ws] ∧ ((there n b ∧ e = 0 ∧ zs = seenP ss (dat ws) (42 + b) ∧ zs.length = 256) ∨ (¬ there n b ∧ e = 1 ∧ zs = [])) ∧ (In .u8 zs) ∧ (zs.length ≤ c9) ∧ (0 < zs.length → Option.isSome A9 = true)) := by
  refine CallsS.enter hU Try.f30 _ [.tmp 4, .tmp 5] 19 Try.func30 rfl (by decide) rfl rfl (by kernel_rfl) fun w0 W => ?_
  refine RunC.sr ?_
  refine RunR.sl hU [] 2 2 [0, 1, 4, 5] [(0, pt wj), (1, .int .i64 b), (4, .slice none 0 0), (5, .int .i64 0)] 2 ?_
  refine RunR.nn ?_
  refine RunC.seq ?_
  refine RunC.sr ?_
  refine RunR.sl hU [] 2 2 [0, 1, 4, 5, 6, 7] [(0, pt wj), (1, .int .i64 b), (4, .slice none 0 0), (5, .int .i64 0), (6, pt wj), (7, .int .i64 b)] 2 ?_
  refine RunR.st (some 8) (.call { callee := .value (.func 46), args := #[.tmp 6, .tmp 7], argTypes := #[32, 3] }) (Step.cn 46 [pt wj, .int .i64 b] [blk wj 72 [pt d], blk d 70 [.slice A n c, .slice Wa m wc, .int .i64 lf, .bool dn]] [row 5 1 (.slice A n c) n (nums .u8 ss), row 51 2 (.slice Wa m wc) m (chV ws), chd .u8 ws] (wl_there_spec wj d A n c Wa m wc lf dn b (by assumption) (by assumption)) [0, 0] ?_)
  rintro _ _ ⟨rfl, rfl⟩
  refine RunR.sl hU [] 1 4 [0, 1, 4, 5, 9] [(0, pt wj), (1, .int .i64 b), (4, .slice none 0 0), (5, .int .i64 0), (9, .bool (!decide (0 ≤ b ∧ 256 * (42 + b) + 256 ≤ (n : Int))))] 1 ?_
  refine RunR.nn ?_
  refine RunC.condn (0 ≤ b ∧ 256 * (42 + b) + 256 ≤ (n : Int)) (by kernel_rfl) (fun h1 => ?_) (fun h1 => ?_)
  · skip
    refine RunC.sr ?_
    refine RunR.sl hU [] 2 2 [0, 1, 4, 5] [(0, pt wj), (1, .int .i64 b), (4, .slice none 0 0), (5, .int .i64 1)] 2 ?_
    refine RunR.nn ?_
    refine RunC.ret ?_
    refine kseq_r ?_
    refine kret_rt ([row 5 1 (.slice none 0 0) 0 (nums .u8 ([] : List Int)), blk wj 72 [pt d], blk d 70 [.slice A n c, .slice Wa m wc, .int .i64 lf, .bool dn], row 5 1 (.slice A n c) n (nums .u8 ss), row 51 2 (.slice Wa m wc) m (chV ws), chd .u8 ws]) (fun w0 W w hs => (hs).nil_row 5 1) [.slice none 0 0, .int .i64 1] [0, 0, 0, 0, 0, 0] [row 5 1 (.slice none 0 0) 0 (nums .u8 ([] : List Int)), blk wj 72 [pt d], blk d 70 [.slice A n c, .slice Wa m wc, .int .i64 lf, .bool dn], row 5 1 (.slice A n c) n (nums .u8 ss), row 51 2 (.slice Wa m wc) m (chV ws), chd .u8 ws] ⟨rfl, rfl, trivial⟩ (by kernel_rfl) rfl ⟨none, 0, ([] : List Int), 1, rfl, rfl, (by exact .inr ⟨by assumption, rfl, rfl⟩), (by exact In.nil _), (by exact Nat.le_refl _), (by intro h; simp at h)⟩
  · skip
    refine RunC.ks ?_
    refine RunC.seq ?_
    refine RunC.regionU hU 11 [blk wj 72 [pt d]] [0] [6, 9, 10] (bm 11 0) (by kernel_rfl) (by kernel_rfl) (by kernel_rfl) ?_
    refine RunU.sl hU 0 (bm 11 1) 10 (pt wj) ?_
    refine RunU.sl hU 1 (bm 11 3) 11 (pt wj) ?_
    refine RunU.sl hU 2 (bm 11 7) 12 (pt wj) ?_
    refine RunU.rd 3 (bm 11 15) 13 (.load 30 (.tmp 12)) (pt d) [0] (Reads.load_blk hU 0 wj (0) 72 [pt d] (pt d) (by kernel_rfl) (by kernel_rfl) (by kernel_rfl)) ?_
    refine RunU.sl hU 4 (bm 11 31) 14 (.int .i64 b) ?_
    refine RunU.on (some 15) (.call { callee := .value (.func 53), args := #[.tmp 14], argTypes := #[3] }) 5 (bm 11 63) [0] (Step.cn 53 [.int .i64 b] [] [blk wj 72 [pt d], blk d 70 [.slice A n c, .slice Wa m wc, .int .i64 lf, .bool dn], row 5 1 (.slice A n c) n (nums .u8 ss), row 51 2 (.slice Wa m wc) m (chV ws), chd .u8 ws] (wl_place_spec b (by omega)) [] ?_)
    rintro _ _ ⟨rfl, rfl⟩
    refine orL ?_
    refine RunU.on (some 16) (.call { callee := .value (.func 55), args := #[.tmp 13, .tmp 15], argTypes := #[30, 3] }) 6 (bm 11 127) [] (Step.cn 55 [pt d, .int .i64 (42 + b)] [blk d 70 [.slice A n c, .slice Wa m wc, .int .i64 lf, .bool dn], row 5 1 (.slice A n c) n (nums .u8 ss), row 51 2 (.slice Wa m wc) m (chV ws), chd .u8 ws] [blk wj 72 [pt d]] (d_Read_spec d A n c ss Wa m wc ws lf dn (42 + b) hss (by assumption) (by assumption) (fun h => hAs (by exact h)) (by assumption) (by assumption) (by assumption) (by omega) (by assumption) (by assumption) (fun h => hWs (by exact h)) (by (refine ⟨?_, ?_⟩ <;> omega))) [1, 1, 1, 1] ?_)
    rintro _ _ ⟨A92, c93, zs4, e5, rfl, rfl, hp6, hp7, hp8, hp9⟩
    refine orR ?_
    refine RunU.sl hU 7 (bm 11 255) 17 (.slice A92 zs4.length c93) ?_
    refine RunU.sl hU 8 (bm 11 511) 18 (.int .i64 e5) ?_
    refine RunU.sl hU 9 (bm 11 1023) 4 (.slice A92 zs4.length c93) ?_
    refine RunU.sl hU 10 (bm 11 2047) 5 (.int .i64 e5) ?_
    refine RunU.ev [4, 5] [(4, .slice A92 zs4.length c93), (5, .int .i64 e5)] ?_
    refine RunU.dn ?_
    refine kseq_n ?_
    refine RunC.ret ?_
    refine kret_r [.slice A92 zs4.length c93, .int .i64 e5] [0, 4, 0, 0, 0, 0] [row 5 1 (.slice A92 zs4.length c93) zs4.length (nums .u8 zs4), blk wj 72 [pt d], blk d 70 [.slice A n c, .slice Wa m wc, .int .i64 lf, .bool dn], row 5 1 (.slice A n c) n (nums .u8 ss), row 51 2 (.slice Wa m wc) m (chV ws), chd .u8 ws] ⟨rfl, rfl, trivial⟩ (by kernel_rfl) rfl ⟨A92, c93, zs4, e5, rfl, rfl, (by exact .inl ⟨by assumption, wl_read (by assumption) hp6⟩), hp7, (by assumption), (fun h => hp9 (by exact h))⟩

theorem wl_Write_spec (wj : Nat) (d : Nat) (A : Option Addr) (n : Nat) (c : Nat) (ss : List Int) (Wa : Option Addr) (m : Nat) (wc : Nat) (ws : List Ch) (lf : Int) (dn : Bool) (b : Int) (A8 : Option Addr) (c8 : Nat) (bs : List Int) (l_bs : Nat) (hss : In .u8 ss) (hnl : ss.length = n) (hnc : n ≤ c) (hAs : 0 < n → Option.isSome A = true) (hn6 : n % 256 = 0) (hnb : n ≤ 557056) (hml : ws.length = m) (hmb : m ≤ 900000) (hok : ChOK .u8 ws) (hwk : WOK n ws) (hWs : 0 < m → Option.isSome Wa = true) (hlf : 0 ≤ lf ∧ lf < 9223372036854775808) (hb : fits .i64 b) (hIbs : In .u8 bs) (hCbs : bs.length ≤ c8) (hBbs : bs.length ≤ 140737488351232) (hl_bs : bs.length = l_bs) :
    CallsS Try.prog 26 [pt wj, .int .i64 b, .slice A8 l_bs c8] [blk wj 72 [pt d], blk d 70 [.slice A n c, .slice Wa m wc, .int .i64 lf, .bool dn], row 5 1 (.slice A n c) n (nums .u8 ss), row 51 2 (.slice Wa m wc) m (chV ws), chd .u8 ws, vw A8 (nums .u8 bs)] (fun r D => ∃ (e : Int) (Wb : Option Addr) (m2 : Nat) (wc2 : Nat) (ws2 : List Ch) (lf2 : Int) (dn2 : Bool), r = .int .i64 e ∧ D = [blk wj 72 [pt d], blk d 70 [.slice A n c, .slice Wb m2 wc2, .int .i64 lf2, .bool dn2], row 5 1 (.slice A n c) n (nums .u8 ss), row 51 2 (.slice Wb m2 wc2) m2 (chV ws2), chd .u8 ws2] ∧ ((e, dat ws2, lf2, dn2) = if there n b then writeP n (dat ws) lf dn (42 + b) bs else (1, dat ws, lf, dn)) ∧ (ws2.length = m2) ∧ (m2 ≤ m + 1) ∧ (ChOK .u8 ws2) ∧ (WOK n ws2) ∧ (0 < m2 → Option.isSome Wb = true) ∧ (0 ≤ lf2 ∧ lf2 < 9223372036854775808)) := by
  subst hl_bs
  refine CallsS.enter hU Try.f26 _ [.tmp 6] 19 Try.func26 rfl (by decide) rfl rfl (by kernel_rfl) fun w0 W => ?_
  refine RunC.know (p := 0 < bs.length → Option.isSome A8 = true) (fun _ _ w hs => vw_some hs 5 rfl (by (simp [nums_length]; done))) (fun hA1 => ?_)
  refine RunC.sr ?_
  refine RunR.sl hU [] 1 1 [0, 1, 2, 6] [(0, pt wj), (1, .int .i64 b), (2, .slice A8 bs.length c8), (6, .int .i64 0)] 1 ?_
  refine RunR.nn ?_
  refine RunC.seq ?_
  refine RunC.sr ?_
  refine RunR.sl hU [] 2 2 [0, 1, 2, 6, 7, 8] [(0, pt wj), (1, .int .i64 b), (2, .slice A8 bs.length c8), (6, .int .i64 0), (7, pt wj), (8, .int .i64 b)] 2 ?_
  refine RunR.st (some 9) (.call { callee := .value (.func 46), args := #[.tmp 7, .tmp 8], argTypes := #[32, 3] }) (Step.cn 46 [pt wj, .int .i64 b] [blk wj 72 [pt d], blk d 70 [.slice A n c, .slice Wa m wc, .int .i64 lf, .bool dn]] [row 5 1 (.slice A n c) n (nums .u8 ss), row 51 2 (.slice Wa m wc) m (chV ws), chd .u8 ws, vw A8 (nums .u8 bs)] (wl_there_spec wj d A n c Wa m wc lf dn b (by assumption) (by assumption)) [0, 0] ?_)
  rintro _ _ ⟨rfl, rfl⟩
  refine RunR.sl hU [] 1 4 [0, 1, 2, 6, 10] [(0, pt wj), (1, .int .i64 b), (2, .slice A8 bs.length c8), (6, .int .i64 0), (10, .bool (!decide (0 ≤ b ∧ 256 * (42 + b) + 256 ≤ (n : Int))))] 1 ?_
  refine RunR.nn ?_
  refine RunC.condn (0 ≤ b ∧ 256 * (42 + b) + 256 ≤ (n : Int)) (by kernel_rfl) (fun h2 => ?_) (fun h2 => ?_)
  · skip
    refine RunC.sr ?_
    refine RunR.sl hU [] 1 1 [0, 1, 2, 6] [(0, pt wj), (1, .int .i64 b), (2, .slice A8 bs.length c8), (6, .int .i64 1)] 1 ?_
    refine RunR.nn ?_
    refine RunC.ret ?_
    refine kseq_r ?_
    refine kret_r [.int .i64 1] [0, 0, 0, 0, 0] [blk wj 72 [pt d], blk d 70 [.slice A n c, .slice Wa m wc, .int .i64 lf, .bool dn], row 5 1 (.slice A n c) n (nums .u8 ss), row 51 2 (.slice Wa m wc) m (chV ws), chd .u8 ws] ⟨rfl, trivial⟩ (by kernel_rfl) rfl ⟨1, Wa, m, wc, ws, lf, dn, rfl, rfl, (by exact (if_neg (by assumption)).symm), (by assumption), (by omega), (by assumption), (by assumption), (by assumption), (by assumption)⟩
  · skip
    refine RunC.ks ?_
    refine RunC.seq ?_
    refine RunC.regionU hU 9 [blk wj 72 [pt d]] [0] [7, 8] (bm 9 0) (by kernel_rfl) (by kernel_rfl) (by kernel_rfl) ?_
    refine RunU.sl hU 0 (bm 9 1) 11 (pt wj) ?_
    refine RunU.sl hU 1 (bm 9 3) 12 (pt wj) ?_
    refine RunU.sl hU 2 (bm 9 7) 13 (pt wj) ?_
    refine RunU.rd 3 (bm 9 15) 14 (.load 30 (.tmp 13)) (pt d) [0] (Reads.load_blk hU 0 wj (0) 72 [pt d] (pt d) (by kernel_rfl) (by kernel_rfl) (by kernel_rfl)) ?_
    refine RunU.sl hU 4 (bm 9 31) 15 (.int .i64 b) ?_
    refine RunU.sl hU 6 (bm 9 95) 17 (.slice A8 bs.length c8) ?_
    refine RunU.on (some 16) (.call { callee := .value (.func 53), args := #[.tmp 15], argTypes := #[3] }) 5 (bm 9 127) [0] (Step.cn 53 [.int .i64 b] [] [blk wj 72 [pt d], blk d 70 [.slice A n c, .slice Wa m wc, .int .i64 lf, .bool dn], row 5 1 (.slice A n c) n (nums .u8 ss), row 51 2 (.slice Wa m wc) m (chV ws), chd .u8 ws, vw A8 (nums .u8 bs)] (wl_place_spec b (by omega)) [] ?_)
    rintro _ _ ⟨rfl, rfl⟩
    refine orL ?_
    refine RunU.on (some 18) (.call { callee := .value (.func 52), args := #[.tmp 14, .tmp 16, .tmp 17], argTypes := #[30, 3, 23] }) 7 (bm 9 255) [] (Step.cl 52 [pt d, .int .i64 (42 + b), .slice A8 bs.length c8] [blk d 70 [.slice A n c, .slice Wa m wc, .int .i64 lf, .bool dn], row 5 1 (.slice A n c) n (nums .u8 ss), row 51 2 (.slice Wa m wc) m (chV ws), chd .u8 ws] [vw A8 (nums .u8 bs)] [blk wj 72 [pt d], vw A8 (nums .u8 bs)] (d_Write_spec d A n c ss Wa m wc ws lf dn (42 + b) A8 c8 bs bs.length hss (by assumption) (by assumption) (fun h => hAs (by exact h)) (by assumption) (by assumption) (by assumption) (by omega) (by assumption) (by assumption) (fun h => hWs (by exact h)) (by assumption) (by (refine ⟨?_, ?_⟩ <;> omega)) hIbs (by assumption) (by assumption) (by rfl)) [1, 1, 1, 1] ((Lend.nil _).tells 1 (vw A8 (nums .u8 bs)) A8 (nums .u8 bs) (by kernel_rfl) (tells_vw _ _)) ?_)
    rintro _ _ ⟨e3, Wb4, m25, wc26, ws27, lf28, dn29, rfl, rfl, hp10, hp11, hp12, hp13, hp14, hp15, hp16⟩
    refine orR ?_
    refine RunU.sl hU 8 (bm 9 511) 6 (.int .i64 e3) ?_
    refine RunU.ev [6] [(6, .int .i64 e3)] ?_
    refine RunU.dn ?_
    refine kseq_n ?_
    refine RunC.ret ?_
    refine kret_r [.int .i64 e3] [4, 0, 0, 0, 0] [blk wj 72 [pt d], blk d 70 [.slice A n c, .slice Wb4 m25 wc26, .int .i64 lf28, .bool dn29], row 5 1 (.slice A n c) n (nums .u8 ss), row 51 2 (.slice Wb4 m25 wc26) m25 (chV ws27), chd .u8 ws27] ⟨rfl, trivial⟩ (by kernel_rfl) rfl ⟨e3, Wb4, m25, wc26, ws27, lf28, dn29, rfl, rfl, (by exact Eq.trans (by assumption) (if_pos (by assumption)).symm), (by assumption), (by omega), (by assumption), (by assumption), (by assumption), (by assumption)⟩

theorem wl_Sync_spec (wj : Nat) (d : Nat) (A : Option Addr) (n : Nat) (c : Nat) (ss : List Int) (Wa : Option Addr) (m : Nat) (wc : Nat) (ws : List Ch) (lf : Int) (dn : Bool) (hss : In .u8 ss) (hnl : ss.length = n) (hnc : n ≤ c) (hAs : 0 < n → Option.isSome A = true) (hn6 : n % 256 = 0) (hnb : n ≤ 557056) (hml : ws.length = m) (hmb : m ≤ 900000) (hok : ChOK .u8 ws) (hwk : WOK n ws) (hWs : 0 < m → Option.isSome Wa = true) (hlf : 0 ≤ lf ∧ lf < 9223372036854775808) :
    CallsS Try.prog 27 [pt wj] [blk wj 72 [pt d], blk d 70 [.slice A n c, .slice Wa m wc, .int .i64 lf, .bool dn], row 5 1 (.slice A n c) n (nums .u8 ss), row 51 2 (.slice Wa m wc) m (chV ws), chd .u8 ws] (fun r D => ∃ (e : Int) (ss2 : List Int) (Wb : Option Addr) (m2 : Nat) (wc2 : Nat) (ws2 : List Ch) (lf3 : Int) (dn3 : Bool), r = .int .i64 e ∧ D = [blk wj 72 [pt d], blk d 70 [.slice A n c, .slice Wb m2 wc2, .int .i64 lf3, .bool dn3], row 5 1 (.slice A n c) n (nums .u8 ss2), row 51 2 (.slice Wb m2 wc2) m2 (chV ws2), chd .u8 ws2] ∧ ((e, ss2, dat ws2, lf3, dn3) = syncR ss (dat ws) lf dn) ∧ (In .u8 ss2) ∧ (ss2.length = n) ∧ (ws2.length = m2) ∧ (m2 ≤ m + 0) ∧ (ChOK .u8 ws2) ∧ (WOK n ws2) ∧ (0 < m2 → Option.isSome Wb = true) ∧ (0 ≤ lf3 ∧ lf3 < 9223372036854775808)) := by
  refine CallsS.enter hU Try.f27 _ [.tmp 2] 8 Try.func27 rfl (by decide) rfl rfl (by kernel_rfl) fun w0 W => ?_
  refine RunC.sr ?_
  refine RunR.sl hU [] 1 1 [0, 2] [(0, pt wj), (2, .int .i64 0)] 1 ?_
  refine RunR.nx ?_
  refine RunR.sl hU [] 3 3 [2, 5] [(2, .int .i64 0), (5, pt wj)] 3 ?_
  refine RunR.st (some 6) (.load 30 (.tmp 5)) (Step.load_blk hU 0 wj (0) 72 [pt d] (pt d) (by kernel_rfl) (by kernel_rfl) (by kernel_rfl) (by kernel_rfl) ?_)
  refine RunR.st (some 7) (.call { callee := .value (.func 47), args := #[.tmp 6], argTypes := #[30] }) (Step.cn 47 [pt d] [blk d 70 [.slice A n c, .slice Wa m wc, .int .i64 lf, .bool dn], row 5 1 (.slice A n c) n (nums .u8 ss), row 51 2 (.slice Wa m wc) m (chV ws), chd .u8 ws] [blk wj 72 [pt d]] (d_Sync_spec d A n c ss Wa m wc ws lf dn hss (by assumption) (by assumption) (fun h => hAs (by exact h)) (by assumption) (by assumption) (by assumption) (by omega) (by assumption) (by assumption) (fun h => hWs (by exact h)) (by assumption)) [1, 1, 1, 1] ?_)
  rintro _ _ ⟨e1, ss22, Wb3, m24, wc25, ws26, lf37, dn38, rfl, rfl, hp9, hp10, hp11, hp12, hp13, hp14, hp15, hp16, hp17⟩
  refine RunR.sl hU [] 1 6 [2] [(2, .int .i64 e1)] 1 ?_
  refine RunR.nn ?_
  refine RunC.ret ?_
  refine kret_r [.int .i64 e1] [4, 0, 0, 0, 0] [blk wj 72 [pt d], blk d 70 [.slice A n c, .slice Wb3 m24 wc25, .int .i64 lf37, .bool dn38], row 5 1 (.slice A n c) n (nums .u8 ss22), row 51 2 (.slice Wb3 m24 wc25) m24 (chV ws26), chd .u8 ws26] ⟨rfl, trivial⟩ (by kernel_rfl) rfl ⟨e1, ss22, Wb3, m24, wc25, ws26, lf37, dn38, rfl, rfl, (by assumption), hp10, (by assumption), (by assumption), (by assumption), (by assumption), (by assumption), (fun h => hp16 (by exact h)), (by assumption)⟩
end Go.Proofs.Ytaaplakahkgclaa.X6
