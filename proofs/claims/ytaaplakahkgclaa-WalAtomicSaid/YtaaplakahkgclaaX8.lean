/- What these functions compute: a contract for each, walked through its code. -/
import Derived.Test.YtaaplakahkgclaaSLzk
import Derived.Test.YtaaplakahkgclaaBPure
import Derived.Test.YtaaplakahkgclaaProg
import Derived.Test.YtaaplakahkgclaaX1
import Derived.Test.YtaaplakahkgclaaX2
import Derived.Test.YtaaplakahkgclaaX3
import Derived.Test.YtaaplakahkgclaaX4
import Derived.Test.YtaaplakahkgclaaX5
import Derived.Test.YtaaplakahkgclaaX6
import Derived.Test.YtaaplakahkgclaaX7
namespace Go.Proofs.Ytaaplakahkgclaa.X8
open Go Go.Proofs.Ytaaplakahkgclaa.SL Go.Proofs.Ytaaplakahkgclaa.SL.W Go.Proofs.Ytaaplakahkgclaa.SL.D Go.Proofs.Ytaaplakahkgclaa.X1 Go.Proofs.Ytaaplakahkgclaa.X2 Go.Proofs.Ytaaplakahkgclaa.X3 Go.Proofs.Ytaaplakahkgclaa.X4 Go.Proofs.Ytaaplakahkgclaa.X5 Go.Proofs.Ytaaplakahkgclaa.X6 Go.Proofs.Ytaaplakahkgclaa.X7
set_option linter.unusedVariables false
set_option linter.unusedSimpArgs false
set_option maxRecDepth 100000
set_option maxHeartbeats 40000000
def U : Tab where
  und := [(3, .int .i64), (4, .bool), (5, .int .u8), (23, .slice 5), (28, .slice 51), (30, .pointer 70), (33, .int .i64), (50, .struct #[{ name := "Block", type := 3, offset := 0, embedded := false, tag := "", pkgPath := "", byteOffset := 0 }, { name := "Data", type := 23, offset := 1, embedded := false, tag := "", pkgPath := "", byteOffset := 8 }]), (51, .struct #[{ name := "Block", type := 3, offset := 0, embedded := false, tag := "", pkgPath := "", byteOffset := 0 }, { name := "Data", type := 23, offset := 1, embedded := false, tag := "", pkgPath := "", byteOffset := 8 }]), (52, .func #[] #[33] false), (69, .struct #[{ name := "safe", type := 23, offset := 0, embedded := false, tag := "", pkgPath := "orlop/disk", byteOffset := 0 }, { name := "wait", type := 28, offset := 1, embedded := false, tag := "", pkgPath := "orlop/disk", byteOffset := 24 }, { name := "left", type := 3, offset := 2, embedded := false, tag := "", pkgPath := "orlop/disk", byteOffset := 48 }, { name := "down", type := 4, offset := 3, embedded := false, tag := "", pkgPath := "orlop/disk", byteOffset := 56 }]), (70, .struct #[{ name := "safe", type := 23, offset := 0, embedded := false, tag := "", pkgPath := "orlop/disk", byteOffset := 0 }, { name := "wait", type := 28, offset := 1, embedded := false, tag := "", pkgPath := "orlop/disk", byteOffset := 24 }, { name := "left", type := 3, offset := 2, embedded := false, tag := "", pkgPath := "orlop/disk", byteOffset := 48 }, { name := "down", type := 4, offset := 3, embedded := false, tag := "", pkgPath := "orlop/disk", byteOffset := 56 }]), (71, .struct #[{ name := "d", type := 30, offset := 0, embedded := false, tag := "", pkgPath := "orlop/wal", byteOffset := 0 }]), (72, .struct #[{ name := "d", type := 30, offset := 0, embedded := false, tag := "", pkgPath := "orlop/wal", byteOffset := 0 }]), (75, .struct #[{ name := "d", type := 30, offset := 0, embedded := false, tag := "", pkgPath := "orlop/wal", byteOffset := 0 }, { name := "list", type := 28, offset := 1, embedded := false, tag := "", pkgPath := "orlop/wal", byteOffset := 8 }]), (76, .struct #[{ name := "d", type := 30, offset := 0, embedded := false, tag := "", pkgPath := "orlop/wal", byteOffset := 0 }, { name := "list", type := 28, offset := 1, embedded := false, tag := "", pkgPath := "orlop/wal", byteOffset := 8 }]), (99, .slice 52)]
  fld := [((50, 0), (0, 3)), ((50, 1), (1, 23)), ((51, 0), (0, 3)), ((51, 1), (1, 23)), ((69, 0), (0, 23)), ((69, 1), (1, 28)), ((69, 2), (2, 3)), ((69, 3), (3, 4)), ((70, 0), (0, 23)), ((70, 1), (1, 28)), ((70, 2), (2, 3)), ((70, 3), (3, 4)), ((71, 0), (0, 30)), ((72, 0), (0, 30)), ((75, 0), (0, 30)), ((75, 1), (1, 28)), ((76, 0), (0, 30)), ((76, 1), (1, 28))]
  sz := [(3, 1), (4, 1), (5, 1), (23, 1), (28, 1), (30, 1), (33, 1), (50, 2), (51, 2), (52, 1), (69, 4), (70, 4), (71, 1), (72, 1), (75, 2), (76, 2), (99, 1)]
  ti := [(3, (1, 8, .int .i64 0)), (4, (1, 1, .bool false)), (5, (1, 1, .int .u8 0)), (23, (1, 24, .slice none 0 0)), (28, (1, 24, .slice none 0 0)), (30, (1, 8, .pointer none)), (33, (1, 8, .int .i64 0)), (50, (2, 32, .agg #[.int .i64 0, .slice none 0 0])), (51, (2, 32, .agg #[.int .i64 0, .slice none 0 0])), (52, (1, 8, .nilFunc)), (69, (4, 64, .agg #[.slice none 0 0, .slice none 0 0, .int .i64 0, .bool false])), (70, (4, 64, .agg #[.slice none 0 0, .slice none 0 0, .int .i64 0, .bool false])), (71, (1, 8, .agg #[.pointer none])), (72, (1, 8, .agg #[.pointer none])), (75, (2, 32, .agg #[.pointer none, .slice none 0 0])), (76, (2, 32, .agg #[.pointer none, .slice none 0 0])), (99, (1, 24, .slice none 0 0))]
  bld := [(50, [(0, 1), (1, 1)]), (51, [(0, 1), (1, 1)]), (69, [(0, 1), (1, 1), (2, 1), (3, 1)]), (70, [(0, 1), (1, 1), (2, 1), (3, 1)]), (71, [(0, 1)]), (72, [(0, 1)]), (75, [(0, 1), (1, 1)]), (76, [(0, 1), (1, 1)])]

theorem hU : U.OK Try.prog where
  und := by
    intro p hp
    simp only [U, List.mem_cons, List.not_mem_nil, or_false] at hp
    rcases hp with rfl | rfl | rfl | rfl | rfl | rfl | rfl | rfl | rfl | rfl | rfl | rfl | rfl | rfl | rfl | rfl | rfl
    · exact Try.underlying3
    · exact Try.underlying4
    · exact Try.underlying5
    · exact Try.underlying23
    · exact Try.underlying28
    · exact Try.underlying30
    · exact Try.underlying33
    · exact Try.underlying50
    · exact Try.underlying51
    · exact Try.underlying52
    · exact Try.underlying69
    · exact Try.underlying70
    · exact Try.underlying71
    · exact Try.underlying72
    · exact Try.underlying75
    · exact Try.underlying76
    · exact Try.underlying99
  fld := by
    intro p hp
    simp only [U, List.mem_cons, List.not_mem_nil, or_false] at hp
    rcases hp with rfl | rfl | rfl | rfl | rfl | rfl | rfl | rfl | rfl | rfl | rfl | rfl | rfl | rfl | rfl | rfl | rfl | rfl
    · exact ⟨_, _, Try.underlying50, rfl, rfl, rfl, Try.prog.types[3]!, by kernel_rfl, by decide +kernel⟩
    · exact ⟨_, _, Try.underlying50, rfl, rfl, rfl, Try.prog.types[23]!, by kernel_rfl, by decide +kernel⟩
    · exact ⟨_, _, Try.underlying51, rfl, rfl, rfl, Try.prog.types[3]!, by kernel_rfl, by decide +kernel⟩
    · exact ⟨_, _, Try.underlying51, rfl, rfl, rfl, Try.prog.types[23]!, by kernel_rfl, by decide +kernel⟩
    · exact ⟨_, _, Try.underlying69, rfl, rfl, rfl, Try.prog.types[23]!, by kernel_rfl, by decide +kernel⟩
    · exact ⟨_, _, Try.underlying69, rfl, rfl, rfl, Try.prog.types[28]!, by kernel_rfl, by decide +kernel⟩
    · exact ⟨_, _, Try.underlying69, rfl, rfl, rfl, Try.prog.types[3]!, by kernel_rfl, by decide +kernel⟩
    · exact ⟨_, _, Try.underlying69, rfl, rfl, rfl, Try.prog.types[4]!, by kernel_rfl, by decide +kernel⟩
    · exact ⟨_, _, Try.underlying70, rfl, rfl, rfl, Try.prog.types[23]!, by kernel_rfl, by decide +kernel⟩
    · exact ⟨_, _, Try.underlying70, rfl, rfl, rfl, Try.prog.types[28]!, by kernel_rfl, by decide +kernel⟩
    · exact ⟨_, _, Try.underlying70, rfl, rfl, rfl, Try.prog.types[3]!, by kernel_rfl, by decide +kernel⟩
    · exact ⟨_, _, Try.underlying70, rfl, rfl, rfl, Try.prog.types[4]!, by kernel_rfl, by decide +kernel⟩
    · exact ⟨_, _, Try.underlying71, rfl, rfl, rfl, Try.prog.types[30]!, by kernel_rfl, by decide +kernel⟩
    · exact ⟨_, _, Try.underlying72, rfl, rfl, rfl, Try.prog.types[30]!, by kernel_rfl, by decide +kernel⟩
    · exact ⟨_, _, Try.underlying75, rfl, rfl, rfl, Try.prog.types[30]!, by kernel_rfl, by decide +kernel⟩
    · exact ⟨_, _, Try.underlying75, rfl, rfl, rfl, Try.prog.types[28]!, by kernel_rfl, by decide +kernel⟩
    · exact ⟨_, _, Try.underlying76, rfl, rfl, rfl, Try.prog.types[30]!, by kernel_rfl, by decide +kernel⟩
    · exact ⟨_, _, Try.underlying76, rfl, rfl, rfl, Try.prog.types[28]!, by kernel_rfl, by decide +kernel⟩
  sz := by
    intro p hp
    simp only [U, List.mem_cons, List.not_mem_nil, or_false] at hp
    rcases hp with rfl | rfl | rfl | rfl | rfl | rfl | rfl | rfl | rfl | rfl | rfl | rfl | rfl | rfl | rfl | rfl | rfl
    · exact ⟨Try.prog.types[3]!, by kernel_rfl, by kernel_rfl⟩
    · exact ⟨Try.prog.types[4]!, by kernel_rfl, by kernel_rfl⟩
    · exact ⟨Try.prog.types[5]!, by kernel_rfl, by kernel_rfl⟩
    · exact ⟨Try.prog.types[23]!, by kernel_rfl, by kernel_rfl⟩
    · exact ⟨Try.prog.types[28]!, by kernel_rfl, by kernel_rfl⟩
    · exact ⟨Try.prog.types[30]!, by kernel_rfl, by kernel_rfl⟩
    · exact ⟨Try.prog.types[33]!, by kernel_rfl, by kernel_rfl⟩
    · exact ⟨Try.prog.types[50]!, by kernel_rfl, by kernel_rfl⟩
    · exact ⟨Try.prog.types[51]!, by kernel_rfl, by kernel_rfl⟩
    · exact ⟨Try.prog.types[52]!, by kernel_rfl, by kernel_rfl⟩
    · exact ⟨Try.prog.types[69]!, by kernel_rfl, by kernel_rfl⟩
    · exact ⟨Try.prog.types[70]!, by kernel_rfl, by kernel_rfl⟩
    · exact ⟨Try.prog.types[71]!, by kernel_rfl, by kernel_rfl⟩
    · exact ⟨Try.prog.types[72]!, by kernel_rfl, by kernel_rfl⟩
    · exact ⟨Try.prog.types[75]!, by kernel_rfl, by kernel_rfl⟩
    · exact ⟨Try.prog.types[76]!, by kernel_rfl, by kernel_rfl⟩
    · exact ⟨Try.prog.types[99]!, by kernel_rfl, by kernel_rfl⟩
  ti := by
    intro p hp
    simp only [U, List.mem_cons, List.not_mem_nil, or_false] at hp
    rcases hp with rfl | rfl | rfl | rfl | rfl | rfl | rfl | rfl | rfl | rfl | rfl | rfl | rfl | rfl | rfl | rfl | rfl
    · exact ⟨Try.prog.types[3]!, by kernel_rfl, by kernel_rfl, by kernel_rfl, by kernel_rfl⟩
    · exact ⟨Try.prog.types[4]!, by kernel_rfl, by kernel_rfl, by kernel_rfl, by kernel_rfl⟩
    · exact ⟨Try.prog.types[5]!, by kernel_rfl, by kernel_rfl, by kernel_rfl, by kernel_rfl⟩
    · exact ⟨Try.prog.types[23]!, by kernel_rfl, by kernel_rfl, by kernel_rfl, by kernel_rfl⟩
    · exact ⟨Try.prog.types[28]!, by kernel_rfl, by kernel_rfl, by kernel_rfl, by kernel_rfl⟩
    · exact ⟨Try.prog.types[30]!, by kernel_rfl, by kernel_rfl, by kernel_rfl, by kernel_rfl⟩
    · exact ⟨Try.prog.types[33]!, by kernel_rfl, by kernel_rfl, by kernel_rfl, by kernel_rfl⟩
    · exact ⟨Try.prog.types[50]!, by kernel_rfl, by kernel_rfl, by kernel_rfl, by kernel_rfl⟩
    · exact ⟨Try.prog.types[51]!, by kernel_rfl, by kernel_rfl, by kernel_rfl, by kernel_rfl⟩
    · exact ⟨Try.prog.types[52]!, by kernel_rfl, by kernel_rfl, by kernel_rfl, by kernel_rfl⟩
    · exact ⟨Try.prog.types[69]!, by kernel_rfl, by kernel_rfl, by kernel_rfl, by kernel_rfl⟩
    · exact ⟨Try.prog.types[70]!, by kernel_rfl, by kernel_rfl, by kernel_rfl, by kernel_rfl⟩
    · exact ⟨Try.prog.types[71]!, by kernel_rfl, by kernel_rfl, by kernel_rfl, by kernel_rfl⟩
    · exact ⟨Try.prog.types[72]!, by kernel_rfl, by kernel_rfl, by kernel_rfl, by kernel_rfl⟩
    · exact ⟨Try.prog.types[75]!, by kernel_rfl, by kernel_rfl, by kernel_rfl, by kernel_rfl⟩
    · exact ⟨Try.prog.types[76]!, by kernel_rfl, by kernel_rfl, by kernel_rfl, by kernel_rfl⟩
    · exact ⟨Try.prog.types[99]!, by kernel_rfl, by kernel_rfl, by kernel_rfl, by kernel_rfl⟩
  bld := by
    intro p hp
    simp only [U, List.mem_cons, List.not_mem_nil, or_false] at hp
    rcases hp with rfl | rfl | rfl | rfl | rfl | rfl | rfl | rfl
    · exact ⟨_, Try.underlying50, by kernel_rfl⟩
    · exact ⟨_, Try.underlying51, by kernel_rfl⟩
    · exact ⟨_, Try.underlying69, by kernel_rfl⟩
    · exact ⟨_, Try.underlying70, by kernel_rfl⟩
    · exact ⟨_, Try.underlying71, by kernel_rfl⟩
    · exact ⟨_, Try.underlying72, by kernel_rfl⟩
    · exact ⟨_, Try.underlying75, by kernel_rfl⟩
    · exact ⟨_, Try.underlying76, by kernel_rfl⟩
  mixed := by kernel_rfl

theorem wl_phases2_spec (t : Nat) (d : Nat) (A : Option Addr) (n : Nat) (c : Nat) (ss : List Int) (Wa : Option Addr) (m : Nat) (wc : Nat) (ws : List Ch) (lf : Int) (dn : Bool) (La : Option Addr) (lm : Nat) (lc : Nat) (ls : List Ch) (Fa : Option Addr) (fc : Nat) (hss : In .u8 ss) (hnl : ss.length = n) (hnc : n ≤ c) (hAs : 0 < n → Option.isSome A = true) (hn6 : n % 256 = 0) (hnb : n ≤ 557056) (hml : ws.length = m) (hmb : m ≤ 800000) (hok : ChOK .u8 ws) (hwk : WOK n ws) (hWs : 0 < m → Option.isSome Wa = true) (hlf : 0 ≤ lf ∧ lf < 9223372036854775808) (hll : ls.length = lm) (hl4 : lm ≤ 40) (hlok : ChOK .u8 ls) (hbk : BOK n ls) (hn43 : 256 * 43 ≤ n) :
    CallsS Try.prog 41 [pt t, .slice Fa 2 fc] [blk t 76 [pt d, .slice La lm lc], blk d 70 [.slice A n c, .slice Wa m wc, .int .i64 lf, .bool dn], row 5 1 (.slice A n c) n (nums .u8 ss), row 51 2 (.slice Wa m wc) m (chV ws), chd .u8 ws, vw Fa [.func (.func 42) #[pt t] #[], .func (.func 43) #[pt t] #[]], vw La (chV ls), vws (chL ls)] (fun r D => ∃ (e : Int) (ss2 : List Int) (Wb : Option Addr) (m2 : Nat) (wc2 : Nat) (ws2 : List Ch) (lf3 : Int) (dn3 : Bool), r = .int .i64 e ∧ D = [blk t 76 [pt d, .slice La lm lc], blk d 70 [.slice A n c, .slice Wb m2 wc2, .int .i64 lf3, .bool dn3], row 5 1 (.slice A n c) n (nums .u8 ss2), row 51 2 (.slice Wb m2 wc2) m2 (chV ws2), chd .u8 ws2] ∧ ((e, ss2, dat ws2, lf3, dn3) = phs n ss (dat ws) lf dn (openL (dat ls))) ∧ (In .u8 ss2) ∧ (ss2.length = n) ∧ (ws2.length = m2) ∧ (m2 ≤ m + 82) ∧ (ChOK .u8 ws2) ∧ (WOK n ws2) ∧ (0 < m2 → Option.isSome Wb = true) ∧ (0 ≤ lf3 ∧ lf3 < 9223372036854775808)) := by
  refine CallsS.enter hU Try.f41 _ [.tmp 4] 29 Try.func41 rfl (by decide) rfl rfl (by kernel_rfl) fun w0 W => ?_
  refine RunC.know (p := 0 < 2 → Option.isSome Fa = true) (fun _ _ w hs => vw_some hs 5 rfl (by (simp [nums_length]; done))) (fun hA1 => ?_)
  refine RunC.know (p := 0 < ls.length * 2 → Option.isSome La = true) (fun _ _ w hs => vw_some hs 6 rfl (by exact chV_len _)) (fun hA2 => ?_)
  refine RunC.sr ?_
  refine RunR.sl hU [] 1 1 [0, 1, 4] [(0, pt t), (1, .slice Fa 2 fc), (4, .int .i64 0)] 1 ?_
  refine RunR.nn ?_
  refine RunC.seq ?_
  refine RunC.sr ?_
  refine RunR.sl hU [] 3 3 [0, 4, 9, 10, 11] [(0, pt t), (4, .int .i64 0), (9, .slice Fa 2 fc), (10, .int .i64 2), (11, .int .i64 0)] 3 ?_
  refine RunR.nn ?_
  refine RunC.block ?_
  refine RunC.unroll 3 ?_
  refine RunC.sr ?_
  refine RunR.sl hU [] 1 1 [0, 4, 9, 10, 11, 12] [(0, pt t), (4, .int .i64 0), (9, .slice Fa 2 fc), (10, .int .i64 2), (11, .int .i64 0), (12, .bool true)] 1 ?_
  refine RunR.nn ?_
  refine RunC.seq ?_
  refine RunC.cond (b := true) (by kernel_rfl) (fun _ => ?_) (fun h => by cases h)
  refine RunC.ks ?_
  refine RunC.seq ?_
  refine RunC.block ?_
  refine RunC.sr ?_
  refine RunR.sil hU [] 1 1 [0, 4, 9, 10, 11, 13] [(0, pt t), (4, .int .i64 0), (9, .slice Fa 2 fc), (10, .int .i64 2), (11, .int .i64 0), (13, .pointer (elemAt Fa 0 1))] (((0 ≤ (0 : Int) ∧ (0 : Int) < ((2 : Nat) : Int)) ∧ Option.isSome Fa = true) ∧ True) rfl (by kernel_rfl) ⟨⟨by omega, hA1 (by omega)⟩, trivial⟩ ?_
  refine RunR.st (some 14) (.load 52 (.tmp 13)) (Step.load_of hU 5 (vw Fa [.func (.func 42) #[pt t] #[], .func (.func 43) #[pt t] #[]]) Fa 0 1 [.func (.func 42) #[pt t] #[], .func (.func 43) #[pt t] #[]] (.func (.func 42) #[pt t] #[]) (by kernel_rfl) (by kernel_rfl) (tells_vw _ _) (by kernel_rfl) (by kernel_rfl) (by simp) ?_)
  refine RunR.sl hU [] 1 3 [0, 4, 6, 9, 10, 11] [(0, pt t), (4, .int .i64 0), (6, .func (.func 42) #[pt t] #[]), (9, .slice Fa 2 fc), (10, .int .i64 2), (11, .int .i64 0)] 1 ?_
  refine RunR.nn ?_
  refine RunC.seq ?_
  refine RunC.sr ?_
  refine RunR.sl hU [] 1 1 [0, 4, 9, 10, 11, 15] [(0, pt t), (4, .int .i64 0), (9, .slice Fa 2 fc), (10, .int .i64 2), (11, .int .i64 0), (15, .func (.func 42) #[pt t] #[])] 1 ?_
  refine RunR.st (some 16) (.call { callee := .value (.tmp 15), args := #[], argTypes := #[] }) (Step.cl 42 [pt t] [blk t 76 [pt d, .slice La lm lc], blk d 70 [.slice A n c, .slice Wa m wc, .int .i64 lf, .bool dn], row 5 1 (.slice A n c) n (nums .u8 ss), row 51 2 (.slice Wa m wc) m (chV ws), chd .u8 ws] [vw La (chV ls), vws (chL ls)] [vw Fa [.func (.func 42) #[pt t] #[], .func (.func 43) #[pt t] #[]], vw La (chV ls), vws (chL ls)] (wl_lay_spec t d A n c ss Wa m wc ws lf dn La lm lc ls hss (by assumption) (by assumption) (fun h => hAs (by exact h)) (by assumption) (by assumption) (by assumption) (by omega) (by assumption) (by assumption) (fun h => hWs (by exact h)) (by assumption) (by assumption) (by assumption) (by assumption) (by assumption) (by assumption)) [0, 0, 0, 0, 0] (((Lend.nil _).same 2 (vws (chL ls)) (by kernel_rfl) rfl).tells 1 (vw La (chV ls)) La (chV ls) (by kernel_rfl) (tells_vw _ _)) ?_)
  rintro _ _ ⟨e3, Wb4, m25, wc26, ws27, lf28, dn29, rfl, rfl, hp10, hp11, hp12, hp13, hp14, hp15, hp16⟩
  refine RunR.sl hU [] 1 3 [0, 4, 7, 9, 10, 11] [(0, pt t), (4, .int .i64 0), (7, .int .i64 e3), (9, .slice Fa 2 fc), (10, .int .i64 2), (11, .int .i64 0)] 1 ?_
  refine RunR.nx ?_
  refine RunR.sl hU [] 2 2 [0, 4, 7, 9, 10, 11, 18] [(0, pt t), (4, .int .i64 0), (7, .int .i64 e3), (9, .slice Fa 2 fc), (10, .int .i64 2), (11, .int .i64 0), (18, .bool (!decide (e3 = 0)))] 2 ?_
  refine RunR.nn ?_
  refine RunC.condn (e3 = 0) (by kernel_rfl) (fun h17 => ?_) (fun h17 => ?_)
  · skip
    refine RunC.sr ?_
    refine RunR.sl hU [] 2 2 [0, 4, 9, 10, 11] [(0, pt t), (4, .int .i64 e3), (9, .slice Fa 2 fc), (10, .int .i64 2), (11, .int .i64 0)] 2 ?_
    refine RunR.nn ?_
    refine RunC.ret ?_
    refine kseq_r ?_
    refine kblock_r ?_
    refine kseq_r ?_
    refine kround_r ?_
    refine kblock_r ?_
    refine kseq_r ?_
    refine kret_r [.int .i64 e3] [0, 0, 0, 0, 0] [blk t 76 [pt d, .slice La lm lc], blk d 70 [.slice A n c, .slice Wb4 m25 wc26, .int .i64 lf28, .bool dn29], row 5 1 (.slice A n c) n (nums .u8 ss), row 51 2 (.slice Wb4 m25 wc26) m25 (chV ws27), chd .u8 ws27] ⟨rfl, trivial⟩ (by kernel_rfl) rfl ⟨e3, ss, Wb4, m25, wc26, ws27, lf28, dn29, rfl, rfl, (by exact (phs_w (by assumption) (by assumption))), (by assumption), (by assumption), (by assumption), (by omega), (by assumption), (by assumption), (by assumption), (by assumption)⟩
  · skip
    refine RunC.ksr ?_
    refine RunR.sl hU [] 3 3 [0, 4, 9, 10, 11, 22] [(0, pt t), (4, .int .i64 0), (9, .slice Fa 2 fc), (10, .int .i64 2), (11, .int .i64 0), (22, pt t)] 3 ?_
    refine RunR.st (some 23) (.load 30 (.tmp 22)) (Step.load_blk hU 0 t (0) 76 [pt d, .slice La lm lc] (pt d) (by kernel_rfl) (by kernel_rfl) (by kernel_rfl) (by kernel_rfl) ?_)
    refine RunR.st (some 24) (.call { callee := .value (.func 47), args := #[.tmp 23], argTypes := #[30] }) (Step.cn 47 [pt d] [blk d 70 [.slice A n c, .slice Wb4 m25 wc26, .int .i64 lf28, .bool dn29], row 5 1 (.slice A n c) n (nums .u8 ss), row 51 2 (.slice Wb4 m25 wc26) m25 (chV ws27), chd .u8 ws27] [blk t 76 [pt d, .slice La lm lc], vw Fa [.func (.func 42) #[pt t] #[], .func (.func 43) #[pt t] #[]], vw La (chV ls), vws (chL ls)] (d_Sync_spec d A n c ss Wb4 m25 wc26 ws27 lf28 dn29 hss (by assumption) (by assumption) (fun h => hAs (by exact h)) (by assumption) (by assumption) (by assumption) (by omega) (by assumption) (by assumption) (fun h => hp15 (by exact h)) (by assumption)) [1, 1, 1, 1] ?_)
    rintro _ _ ⟨e18, ss219, Wb20, m221, wc222, ws223, lf324, dn325, rfl, rfl, hp26, hp27, hp28, hp29, hp30, hp31, hp32, hp33, hp34⟩
    refine RunR.sl hU [] 1 6 [0, 4, 8, 9, 10, 11] [(0, pt t), (4, .int .i64 0), (8, .int .i64 e18), (9, .slice Fa 2 fc), (10, .int .i64 2), (11, .int .i64 0)] 1 ?_
    refine RunR.nx ?_
    refine RunR.sl hU [] 2 2 [0, 4, 8, 9, 10, 11, 26] [(0, pt t), (4, .int .i64 0), (8, .int .i64 e18), (9, .slice Fa 2 fc), (10, .int .i64 2), (11, .int .i64 0), (26, .bool (!decide (e18 = 0)))] 2 ?_
    refine RunR.nn ?_
    refine RunC.condn (e18 = 0) (by kernel_rfl) (fun h35 => ?_) (fun h35 => ?_)
    · skip
      refine RunC.sr ?_
      refine RunR.sl hU [] 2 2 [0, 4, 9, 10, 11] [(0, pt t), (4, .int .i64 e18), (9, .slice Fa 2 fc), (10, .int .i64 2), (11, .int .i64 0)] 2 ?_
      refine RunR.nn ?_
      refine RunC.ret ?_
      refine kblock_r ?_
      refine kseq_r ?_
      refine kround_r ?_
      refine kblock_r ?_
      refine kseq_r ?_
      refine kret_r [.int .i64 e18] [4, 0, 0, 0, 0] [blk t 76 [pt d, .slice La lm lc], blk d 70 [.slice A n c, .slice Wb20 m221 wc222, .int .i64 lf324, .bool dn325], row 5 1 (.slice A n c) n (nums .u8 ss219), row 51 2 (.slice Wb20 m221 wc222) m221 (chV ws223), chd .u8 ws223] ⟨rfl, trivial⟩ (by kernel_rfl) rfl ⟨e18, ss219, Wb20, m221, wc222, ws223, lf324, dn325, rfl, rfl, (by exact (phs_s (by assumption) (by assumption) (by assumption) (by assumption))), (by assumption), (by assumption), (by assumption), (by omega), (by assumption), (by assumption), (by assumption), (by assumption)⟩
    · skip
      refine RunC.skip ?_
      refine kblock_n ?_
      refine kseq_n ?_
      refine RunC.region ?_
      refine RunR.sil hU [0] 2 2 [0, 4, 9, 10, 11] [(0, pt t), (4, .int .i64 0), (9, .slice Fa 2 fc), (10, .int .i64 2), (11, .int .i64 1)] ((-9223372036854775808 ≤ ((0 : Int) + 1) ∧ ((0 : Int) + 1) < 9223372036854775808) ∧ (True) ∧ True) rfl (by kernel_rfl) ⟨(by decide), trivial, trivial⟩ ?_
      refine RunR.dn ?_
      refine kround_n ?_
      refine RunC.sr ?_
      refine RunR.sl hU [] 1 1 [0, 4, 9, 10, 11, 12] [(0, pt t), (4, .int .i64 0), (9, .slice Fa 2 fc), (10, .int .i64 2), (11, .int .i64 1), (12, .bool true)] 1 ?_
      refine RunR.nn ?_
      refine RunC.seq ?_
      refine RunC.cond (b := true) (by kernel_rfl) (fun _ => ?_) (fun h => by cases h)
      refine RunC.ks ?_
      refine RunC.seq ?_
      refine RunC.block ?_
      refine RunC.sr ?_
      refine RunR.sil hU [] 1 1 [0, 4, 9, 10, 11, 13] [(0, pt t), (4, .int .i64 0), (9, .slice Fa 2 fc), (10, .int .i64 2), (11, .int .i64 1), (13, .pointer (elemAt Fa 1 1))] (((0 ≤ (1 : Int) ∧ (1 : Int) < ((2 : Nat) : Int)) ∧ Option.isSome Fa = true) ∧ True) rfl (by kernel_rfl) ⟨⟨by omega, hA1 (by omega)⟩, trivial⟩ ?_
      refine RunR.st (some 14) (.load 52 (.tmp 13)) (Step.load_of hU 5 (vw Fa [.func (.func 42) #[pt t] #[], .func (.func 43) #[pt t] #[]]) Fa 1 1 [.func (.func 42) #[pt t] #[], .func (.func 43) #[pt t] #[]] (.func (.func 43) #[pt t] #[]) (by kernel_rfl) (by kernel_rfl) (tells_vw _ _) (by kernel_rfl) (by kernel_rfl) (by simp) ?_)
      refine RunR.sl hU [] 1 3 [0, 4, 6, 9, 10, 11] [(0, pt t), (4, .int .i64 0), (6, .func (.func 43) #[pt t] #[]), (9, .slice Fa 2 fc), (10, .int .i64 2), (11, .int .i64 1)] 1 ?_
      refine RunR.nn ?_
      refine RunC.seq ?_
      refine RunC.sr ?_
      refine RunR.sl hU [] 1 1 [0, 4, 9, 10, 11, 15] [(0, pt t), (4, .int .i64 0), (9, .slice Fa 2 fc), (10, .int .i64 2), (11, .int .i64 1), (15, .func (.func 43) #[pt t] #[])] 1 ?_
      refine RunR.st (some 16) (.call { callee := .value (.tmp 15), args := #[], argTypes := #[] }) (Step.cn 43 [pt t] [blk t 76 [pt d, .slice La lm lc], blk d 70 [.slice A n c, .slice Wb20 m221 wc222, .int .i64 lf324, .bool dn325], row 5 1 (.slice A n c) n (nums .u8 ss219), row 51 2 (.slice Wb20 m221 wc222) m221 (chV ws223), chd .u8 ws223] [vw Fa [.func (.func 42) #[pt t] #[], .func (.func 43) #[pt t] #[]], vw La (chV ls), vws (chL ls)] (wl_forget_spec t d A n c ss219 Wb20 m221 wc222 ws223 lf324 dn325 La lm lc hp27 (by assumption) (by assumption) (fun h => hAs (by exact h)) (by assumption) (by assumption) (by assumption) (by omega) (by assumption) (by assumption) (fun h => hp33 (by exact h)) (by assumption) (by assumption)) [4, 0, 0, 0, 0] ?_)
      rintro _ _ ⟨e36, Wb37, m238, wc239, ws240, lf241, dn242, rfl, rfl, hp43, hp44, hp45, hp46, hp47, hp48, hp49⟩
      refine RunR.sl hU [] 1 3 [0, 4, 7, 9, 10, 11] [(0, pt t), (4, .int .i64 0), (7, .int .i64 e36), (9, .slice Fa 2 fc), (10, .int .i64 2), (11, .int .i64 1)] 1 ?_
      refine RunR.nx ?_
      refine RunR.sl hU [] 2 2 [0, 4, 7, 9, 10, 11, 18] [(0, pt t), (4, .int .i64 0), (7, .int .i64 e36), (9, .slice Fa 2 fc), (10, .int .i64 2), (11, .int .i64 1), (18, .bool (!decide (e36 = 0)))] 2 ?_
      refine RunR.nn ?_
      refine RunC.condn (e36 = 0) (by kernel_rfl) (fun h50 => ?_) (fun h50 => ?_)
      · skip
        refine RunC.sr ?_
        refine RunR.sl hU [] 2 2 [0, 4, 9, 10, 11] [(0, pt t), (4, .int .i64 e36), (9, .slice Fa 2 fc), (10, .int .i64 2), (11, .int .i64 1)] 2 ?_
        refine RunR.nn ?_
        refine RunC.ret ?_
        refine kseq_r ?_
        refine kblock_r ?_
        refine kseq_r ?_
        refine kround_r ?_
        refine kblock_r ?_
        refine kseq_r ?_
        refine kret_r [.int .i64 e36] [0, 0, 0, 0, 0] [blk t 76 [pt d, .slice La lm lc], blk d 70 [.slice A n c, .slice Wb37 m238 wc239, .int .i64 lf241, .bool dn242], row 5 1 (.slice A n c) n (nums .u8 ss219), row 51 2 (.slice Wb37 m238 wc239) m238 (chV ws240), chd .u8 ws240] ⟨rfl, trivial⟩ (by kernel_rfl) rfl ⟨e36, ss219, Wb37, m238, wc239, ws240, lf241, dn242, rfl, rfl, (by exact (phs_k (by assumption) (by assumption) (by assumption) (by assumption) (phs_w (by assumption) (by assumption)))), (by assumption), (by assumption), (by assumption), (by omega), (by assumption), (by assumption), (by assumption), (by assumption)⟩
      · skip
        refine RunC.ksr ?_
        refine RunR.sl hU [] 3 3 [0, 4, 9, 10, 11, 22] [(0, pt t), (4, .int .i64 0), (9, .slice Fa 2 fc), (10, .int .i64 2), (11, .int .i64 1), (22, pt t)] 3 ?_
        refine RunR.st (some 23) (.load 30 (.tmp 22)) (Step.load_blk hU 0 t (0) 76 [pt d, .slice La lm lc] (pt d) (by kernel_rfl) (by kernel_rfl) (by kernel_rfl) (by kernel_rfl) ?_)
        refine RunR.st (some 24) (.call { callee := .value (.func 47), args := #[.tmp 23], argTypes := #[30] }) (Step.cn 47 [pt d] [blk d 70 [.slice A n c, .slice Wb37 m238 wc239, .int .i64 lf241, .bool dn242], row 5 1 (.slice A n c) n (nums .u8 ss219), row 51 2 (.slice Wb37 m238 wc239) m238 (chV ws240), chd .u8 ws240] [blk t 76 [pt d, .slice La lm lc], vw Fa [.func (.func 42) #[pt t] #[], .func (.func 43) #[pt t] #[]], vw La (chV ls), vws (chL ls)] (d_Sync_spec d A n c ss219 Wb37 m238 wc239 ws240 lf241 dn242 hp27 (by assumption) (by assumption) (fun h => hAs (by exact h)) (by assumption) (by assumption) (by assumption) (by omega) (by assumption) (by assumption) (fun h => hp48 (by exact h)) (by assumption)) [1, 1, 1, 1] ?_)
        rintro _ _ ⟨e51, ss252, Wb53, m254, wc255, ws256, lf357, dn358, rfl, rfl, hp59, hp60, hp61, hp62, hp63, hp64, hp65, hp66, hp67⟩
        refine RunR.sl hU [] 1 6 [0, 4, 8, 9, 10, 11] [(0, pt t), (4, .int .i64 0), (8, .int .i64 e51), (9, .slice Fa 2 fc), (10, .int .i64 2), (11, .int .i64 1)] 1 ?_
        refine RunR.nx ?_
        refine RunR.sl hU [] 2 2 [0, 4, 8, 9, 10, 11, 26] [(0, pt t), (4, .int .i64 0), (8, .int .i64 e51), (9, .slice Fa 2 fc), (10, .int .i64 2), (11, .int .i64 1), (26, .bool (!decide (e51 = 0)))] 2 ?_
        refine RunR.nn ?_
        refine RunC.condn (e51 = 0) (by kernel_rfl) (fun h68 => ?_) (fun h68 => ?_)
        · skip
          refine RunC.sr ?_
          refine RunR.sl hU [] 2 2 [0, 4, 9, 10, 11] [(0, pt t), (4, .int .i64 e51), (9, .slice Fa 2 fc), (10, .int .i64 2), (11, .int .i64 1)] 2 ?_
          refine RunR.nn ?_
          refine RunC.ret ?_
          refine kblock_r ?_
          refine kseq_r ?_
          refine kround_r ?_
          refine kblock_r ?_
          refine kseq_r ?_
          refine kret_r [.int .i64 e51] [4, 0, 0, 0, 0] [blk t 76 [pt d, .slice La lm lc], blk d 70 [.slice A n c, .slice Wb53 m254 wc255, .int .i64 lf357, .bool dn358], row 5 1 (.slice A n c) n (nums .u8 ss252), row 51 2 (.slice Wb53 m254 wc255) m254 (chV ws256), chd .u8 ws256] ⟨rfl, trivial⟩ (by kernel_rfl) rfl ⟨e51, ss252, Wb53, m254, wc255, ws256, lf357, dn358, rfl, rfl, (by exact (phs_k (by assumption) (by assumption) (by assumption) (by assumption) (phs_s (by assumption) (by assumption) (by assumption) (by assumption)))), (by assumption), (by assumption), (by assumption), (by omega), (by assumption), (by assumption), (by assumption), (by assumption)⟩
        · skip
          refine RunC.skip ?_
          refine kblock_n ?_
          refine kseq_n ?_
          refine RunC.region ?_
          refine RunR.sil hU [0] 2 2 [0, 4, 9, 10, 11] [(0, pt t), (4, .int .i64 0), (9, .slice Fa 2 fc), (10, .int .i64 2), (11, .int .i64 2)] ((-9223372036854775808 ≤ ((1 : Int) + 1) ∧ ((1 : Int) + 1) < 9223372036854775808) ∧ (True) ∧ True) rfl (by kernel_rfl) ⟨(by decide), trivial, trivial⟩ ?_
          refine RunR.dn ?_
          refine kround_n ?_
          refine RunC.sr ?_
          refine RunR.sl hU [] 1 1 [0, 4, 9, 10, 11, 12] [(0, pt t), (4, .int .i64 0), (9, .slice Fa 2 fc), (10, .int .i64 2), (11, .int .i64 2), (12, .bool false)] 1 ?_
          refine RunR.nn ?_
          refine RunC.seq ?_
          refine RunC.cond (b := false) (by kernel_rfl) (fun h => by cases h) (fun _ => ?_)
          refine RunC.exit ?_
          refine kseq_e ?_
          refine kround_e ?_
          refine kblock_e ?_
          refine kseq_n ?_
          refine RunC.sr ?_
          refine RunR.sl hU [] 1 1 [4] [(4, .int .i64 0)] 1 ?_
          refine RunR.nn ?_
          refine RunC.ret ?_
          refine kret_r [.int .i64 0] [4, 0, 0, 0, 0] [blk t 76 [pt d, .slice La lm lc], blk d 70 [.slice A n c, .slice Wb53 m254 wc255, .int .i64 lf357, .bool dn358], row 5 1 (.slice A n c) n (nums .u8 ss252), row 51 2 (.slice Wb53 m254 wc255) m254 (chV ws256), chd .u8 ws256] ⟨rfl, trivial⟩ (by kernel_rfl) rfl ⟨0, ss252, Wb53, m254, wc255, ws256, lf357, dn358, rfl, rfl, (by exact (phs_k (by assumption) (by assumption) (by assumption) (by assumption) (phs_k (by assumption) (by assumption) (by assumption) (by assumption) (phs_nil rfl)))), (by assumption), (by assumption), (by assumption), (by omega), (by assumption), (by assumption), (by assumption), (by assumption)⟩

theorem wl_phases4_spec (t : Nat) (d : Nat) (A : Option Addr) (n : Nat) (c : Nat) (ss : List Int) (Wa : Option Addr) (m : Nat) (wc : Nat) (ws : List Ch) (lf : Int) (dn : Bool) (La : Option Addr) (lm : Nat) (lc : Nat) (ls : List Ch) (Fa : Option Addr) (fc : Nat) (hss : In .u8 ss) (hnl : ss.length = n) (hnc : n ≤ c) (hAs : 0 < n → Option.isSome A = true) (hn6 : n % 256 = 0) (hnb : n ≤ 557056) (hml : ws.length = m) (hmb : m ≤ 800000) (hok : ChOK .u8 ws) (hwk : WOK n ws) (hWs : 0 < m → Option.isSome Wa = true) (hlf : 0 ≤ lf ∧ lf < 9223372036854775808) (hll : ls.length = lm) (hl4 : lm ≤ 40) (hlok : ChOK .u8 ls) (hbk : BOK n ls) (hn43 : 256 * 43 ≤ n) :
    CallsS Try.prog 41 [pt t, .slice Fa 4 fc] [blk t 76 [pt d, .slice La lm lc], blk d 70 [.slice A n c, .slice Wa m wc, .int .i64 lf, .bool dn], row 5 1 (.slice A n c) n (nums .u8 ss), row 51 2 (.slice Wa m wc) m (chV ws), chd .u8 ws, vw Fa [.func (.func 48) #[pt t] #[], .func (.func 49) #[pt t] #[], .func (.func 42) #[pt t] #[], .func (.func 43) #[pt t] #[]], vw La (chV ls), vws (chL ls)] (fun r D => ∃ (e : Int) (ss2 : List Int) (Wb : Option Addr) (m2 : Nat) (wc2 : Nat) (ws2 : List Ch) (lf3 : Int) (dn3 : Bool), r = .int .i64 e ∧ D = [blk t 76 [pt d, .slice La lm lc], blk d 70 [.slice A n c, .slice Wb m2 wc2, .int .i64 lf3, .bool dn3], row 5 1 (.slice A n c) n (nums .u8 ss2), row 51 2 (.slice Wb m2 wc2) m2 (chV ws2), chd .u8 ws2] ∧ ((e, ss2, dat ws2, lf3, dn3) = phs n ss (dat ws) lf dn (commitL (dat ls))) ∧ (In .u8 ss2) ∧ (ss2.length = n) ∧ (ws2.length = m2) ∧ (m2 ≤ m + 82) ∧ (ChOK .u8 ws2) ∧ (WOK n ws2) ∧ (0 < m2 → Option.isSome Wb = true) ∧ (0 ≤ lf3 ∧ lf3 < 9223372036854775808)) := by
  refine CallsS.enter hU Try.f41 _ [.tmp 4] 29 Try.func41 rfl (by decide) rfl rfl (by kernel_rfl) fun w0 W => ?_
  refine RunC.know (p := 0 < 4 → Option.isSome Fa = true) (fun _ _ w hs => vw_some hs 5 rfl (by (simp [nums_length]; done))) (fun hA1 => ?_)
  refine RunC.know (p := 0 < ls.length * 2 → Option.isSome La = true) (fun _ _ w hs => vw_some hs 6 rfl (by exact chV_len _)) (fun hA2 => ?_)
  refine RunC.sr ?_
  refine RunR.sl hU [] 1 1 [0, 1, 4] [(0, pt t), (1, .slice Fa 4 fc), (4, .int .i64 0)] 1 ?_
  refine RunR.nn ?_
  refine RunC.seq ?_
  refine RunC.sr ?_
  refine RunR.sl hU [] 3 3 [0, 4, 9, 10, 11] [(0, pt t), (4, .int .i64 0), (9, .slice Fa 4 fc), (10, .int .i64 4), (11, .int .i64 0)] 3 ?_
  refine RunR.nn ?_
  refine RunC.block ?_
  refine RunC.unroll 5 ?_
  refine RunC.sr ?_
  refine RunR.sl hU [] 1 1 [0, 4, 9, 10, 11, 12] [(0, pt t), (4, .int .i64 0), (9, .slice Fa 4 fc), (10, .int .i64 4), (11, .int .i64 0), (12, .bool true)] 1 ?_
  refine RunR.nn ?_
  refine RunC.seq ?_
  refine RunC.cond (b := true) (by kernel_rfl) (fun _ => ?_) (fun h => by cases h)
  refine RunC.ks ?_
  refine RunC.seq ?_
  refine RunC.block ?_
  refine RunC.sr ?_
  refine RunR.sil hU [] 1 1 [0, 4, 9, 10, 11, 13] [(0, pt t), (4, .int .i64 0), (9, .slice Fa 4 fc), (10, .int .i64 4), (11, .int .i64 0), (13, .pointer (elemAt Fa 0 1))] (((0 ≤ (0 : Int) ∧ (0 : Int) < ((4 : Nat) : Int)) ∧ Option.isSome Fa = true) ∧ True) rfl (by kernel_rfl) ⟨⟨by omega, hA1 (by omega)⟩, trivial⟩ ?_
  refine RunR.st (some 14) (.load 52 (.tmp 13)) (Step.load_of hU 5 (vw Fa [.func (.func 48) #[pt t] #[], .func (.func 49) #[pt t] #[], .func (.func 42) #[pt t] #[], .func (.func 43) #[pt t] #[]]) Fa 0 1 [.func (.func 48) #[pt t] #[], .func (.func 49) #[pt t] #[], .func (.func 42) #[pt t] #[], .func (.func 43) #[pt t] #[]] (.func (.func 48) #[pt t] #[]) (by kernel_rfl) (by kernel_rfl) (tells_vw _ _) (by kernel_rfl) (by kernel_rfl) (by simp) ?_)
  refine RunR.sl hU [] 1 3 [0, 4, 6, 9, 10, 11] [(0, pt t), (4, .int .i64 0), (6, .func (.func 48) #[pt t] #[]), (9, .slice Fa 4 fc), (10, .int .i64 4), (11, .int .i64 0)] 1 ?_
  refine RunR.nn ?_
  refine RunC.seq ?_
  refine RunC.sr ?_
  refine RunR.sl hU [] 1 1 [0, 4, 9, 10, 11, 15] [(0, pt t), (4, .int .i64 0), (9, .slice Fa 4 fc), (10, .int .i64 4), (11, .int .i64 0), (15, .func (.func 48) #[pt t] #[])] 1 ?_
  refine RunR.st (some 16) (.call { callee := .value (.tmp 15), args := #[], argTypes := #[] }) (Step.cl 48 [pt t] [blk t 76 [pt d, .slice La lm lc], blk d 70 [.slice A n c, .slice Wa m wc, .int .i64 lf, .bool dn], row 5 1 (.slice A n c) n (nums .u8 ss), row 51 2 (.slice Wa m wc) m (chV ws), chd .u8 ws] [vw La (chV ls), vws (chL ls)] [vw Fa [.func (.func 48) #[pt t] #[], .func (.func 49) #[pt t] #[], .func (.func 42) #[pt t] #[], .func (.func 43) #[pt t] #[]], vw La (chV ls), vws (chL ls)] (wl_log_spec t d A n c ss Wa m wc ws lf dn La lm lc ls hss (by assumption) (by assumption) (fun h => hAs (by exact h)) (by assumption) (by assumption) (by assumption) (by omega) (by assumption) (by assumption) (fun h => hWs (by exact h)) (by assumption) (by assumption) (by assumption) (by assumption) (by assumption) (by assumption)) [0, 0, 0, 0, 0] (((Lend.nil _).same 2 (vws (chL ls)) (by kernel_rfl) rfl).tells 1 (vw La (chV ls)) La (chV ls) (by kernel_rfl) (tells_vw _ _)) ?_)
  rintro _ _ ⟨e3, Wb4, m25, wc26, ws27, lf28, dn29, rfl, rfl, hp10, hp11, hp12, hp13, hp14, hp15, hp16⟩
  refine RunR.sl hU [] 1 3 [0, 4, 7, 9, 10, 11] [(0, pt t), (4, .int .i64 0), (7, .int .i64 e3), (9, .slice Fa 4 fc), (10, .int .i64 4), (11, .int .i64 0)] 1 ?_
  refine RunR.nx ?_
  refine RunR.sl hU [] 2 2 [0, 4, 7, 9, 10, 11, 18] [(0, pt t), (4, .int .i64 0), (7, .int .i64 e3), (9, .slice Fa 4 fc), (10, .int .i64 4), (11, .int .i64 0), (18, .bool (!decide (e3 = 0)))] 2 ?_
  refine RunR.nn ?_
  refine RunC.condn (e3 = 0) (by kernel_rfl) (fun h17 => ?_) (fun h17 => ?_)
  · skip
    refine RunC.sr ?_
    refine RunR.sl hU [] 2 2 [0, 4, 9, 10, 11] [(0, pt t), (4, .int .i64 e3), (9, .slice Fa 4 fc), (10, .int .i64 4), (11, .int .i64 0)] 2 ?_
    refine RunR.nn ?_
    refine RunC.ret ?_
    refine kseq_r ?_
    refine kblock_r ?_
    refine kseq_r ?_
    refine kround_r ?_
    refine kblock_r ?_
    refine kseq_r ?_
    refine kret_r [.int .i64 e3] [0, 0, 0, 0, 0] [blk t 76 [pt d, .slice La lm lc], blk d 70 [.slice A n c, .slice Wb4 m25 wc26, .int .i64 lf28, .bool dn29], row 5 1 (.slice A n c) n (nums .u8 ss), row 51 2 (.slice Wb4 m25 wc26) m25 (chV ws27), chd .u8 ws27] ⟨rfl, trivial⟩ (by kernel_rfl) rfl ⟨e3, ss, Wb4, m25, wc26, ws27, lf28, dn29, rfl, rfl, (by exact (phs_w (by assumption) (by assumption))), (by assumption), (by assumption), (by assumption), (by omega), (by assumption), (by assumption), (by assumption), (by assumption)⟩
  · skip
    refine RunC.ksr ?_
    refine RunR.sl hU [] 3 3 [0, 4, 9, 10, 11, 22] [(0, pt t), (4, .int .i64 0), (9, .slice Fa 4 fc), (10, .int .i64 4), (11, .int .i64 0), (22, pt t)] 3 ?_
    refine RunR.st (some 23) (.load 30 (.tmp 22)) (Step.load_blk hU 0 t (0) 76 [pt d, .slice La lm lc] (pt d) (by kernel_rfl) (by kernel_rfl) (by kernel_rfl) (by kernel_rfl) ?_)
    refine RunR.st (some 24) (.call { callee := .value (.func 47), args := #[.tmp 23], argTypes := #[30] }) (Step.cn 47 [pt d] [blk d 70 [.slice A n c, .slice Wb4 m25 wc26, .int .i64 lf28, .bool dn29], row 5 1 (.slice A n c) n (nums .u8 ss), row 51 2 (.slice Wb4 m25 wc26) m25 (chV ws27), chd .u8 ws27] [blk t 76 [pt d, .slice La lm lc], vw Fa [.func (.func 48) #[pt t] #[], .func (.func 49) #[pt t] #[], .func (.func 42) #[pt t] #[], .func (.func 43) #[pt t] #[]], vw La (chV ls), vws (chL ls)] (d_Sync_spec d A n c ss Wb4 m25 wc26 ws27 lf28 dn29 hss (by assumption) (by assumption) (fun h => hAs (by exact h)) (by assumption) (by assumption) (by assumption) (by omega) (by assumption) (by assumption) (fun h => hp15 (by exact h)) (by assumption)) [1, 1, 1, 1] ?_)
    rintro _ _ ⟨e18, ss219, Wb20, m221, wc222, ws223, lf324, dn325, rfl, rfl, hp26, hp27, hp28, hp29, hp30, hp31, hp32, hp33, hp34⟩
    refine RunR.sl hU [] 1 6 [0, 4, 8, 9, 10, 11] [(0, pt t), (4, .int .i64 0), (8, .int .i64 e18), (9, .slice Fa 4 fc), (10, .int .i64 4), (11, .int .i64 0)] 1 ?_
    refine RunR.nx ?_
    refine RunR.sl hU [] 2 2 [0, 4, 8, 9, 10, 11, 26] [(0, pt t), (4, .int .i64 0), (8, .int .i64 e18), (9, .slice Fa 4 fc), (10, .int .i64 4), (11, .int .i64 0), (26, .bool (!decide (e18 = 0)))] 2 ?_
    refine RunR.nn ?_
    refine RunC.condn (e18 = 0) (by kernel_rfl) (fun h35 => ?_) (fun h35 => ?_)
    · skip
      refine RunC.sr ?_
      refine RunR.sl hU [] 2 2 [0, 4, 9, 10, 11] [(0, pt t), (4, .int .i64 e18), (9, .slice Fa 4 fc), (10, .int .i64 4), (11, .int .i64 0)] 2 ?_
      refine RunR.nn ?_
      refine RunC.ret ?_
      refine kblock_r ?_
      refine kseq_r ?_
      refine kround_r ?_
      refine kblock_r ?_
      refine kseq_r ?_
      refine kret_r [.int .i64 e18] [4, 0, 0, 0, 0] [blk t 76 [pt d, .slice La lm lc], blk d 70 [.slice A n c, .slice Wb20 m221 wc222, .int .i64 lf324, .bool dn325], row 5 1 (.slice A n c) n (nums .u8 ss219), row 51 2 (.slice Wb20 m221 wc222) m221 (chV ws223), chd .u8 ws223] ⟨rfl, trivial⟩ (by kernel_rfl) rfl ⟨e18, ss219, Wb20, m221, wc222, ws223, lf324, dn325, rfl, rfl, (by exact (phs_s (by assumption) (by assumption) (by assumption) (by assumption))), (by assumption), (by assumption), (by assumption), (by omega), (by assumption), (by assumption), (by assumption), (by assumption)⟩
    · skip
      refine RunC.skip ?_
      refine kblock_n ?_
      refine kseq_n ?_
      refine RunC.region ?_
      refine RunR.sil hU [0] 2 2 [0, 4, 9, 10, 11] [(0, pt t), (4, .int .i64 0), (9, .slice Fa 4 fc), (10, .int .i64 4), (11, .int .i64 1)] ((-9223372036854775808 ≤ ((0 : Int) + 1) ∧ ((0 : Int) + 1) < 9223372036854775808) ∧ (True) ∧ True) rfl (by kernel_rfl) ⟨(by decide), trivial, trivial⟩ ?_
      refine RunR.dn ?_
      refine kround_n ?_
      refine RunC.sr ?_
      refine RunR.sl hU [] 1 1 [0, 4, 9, 10, 11, 12] [(0, pt t), (4, .int .i64 0), (9, .slice Fa 4 fc), (10, .int .i64 4), (11, .int .i64 1), (12, .bool true)] 1 ?_
      refine RunR.nn ?_
      refine RunC.seq ?_
      refine RunC.cond (b := true) (by kernel_rfl) (fun _ => ?_) (fun h => by cases h)
      refine RunC.ks ?_
      refine RunC.seq ?_
      refine RunC.block ?_
      refine RunC.sr ?_
      refine RunR.sil hU [] 1 1 [0, 4, 9, 10, 11, 13] [(0, pt t), (4, .int .i64 0), (9, .slice Fa 4 fc), (10, .int .i64 4), (11, .int .i64 1), (13, .pointer (elemAt Fa 1 1))] (((0 ≤ (1 : Int) ∧ (1 : Int) < ((4 : Nat) : Int)) ∧ Option.isSome Fa = true) ∧ True) rfl (by kernel_rfl) ⟨⟨by omega, hA1 (by omega)⟩, trivial⟩ ?_
      refine RunR.st (some 14) (.load 52 (.tmp 13)) (Step.load_of hU 5 (vw Fa [.func (.func 48) #[pt t] #[], .func (.func 49) #[pt t] #[], .func (.func 42) #[pt t] #[], .func (.func 43) #[pt t] #[]]) Fa 1 1 [.func (.func 48) #[pt t] #[], .func (.func 49) #[pt t] #[], .func (.func 42) #[pt t] #[], .func (.func 43) #[pt t] #[]] (.func (.func 49) #[pt t] #[]) (by kernel_rfl) (by kernel_rfl) (tells_vw _ _) (by kernel_rfl) (by kernel_rfl) (by simp) ?_)
      refine RunR.sl hU [] 1 3 [0, 4, 6, 9, 10, 11] [(0, pt t), (4, .int .i64 0), (6, .func (.func 49) #[pt t] #[]), (9, .slice Fa 4 fc), (10, .int .i64 4), (11, .int .i64 1)] 1 ?_
      refine RunR.nn ?_
      refine RunC.seq ?_
      refine RunC.sr ?_
      refine RunR.sl hU [] 1 1 [0, 4, 9, 10, 11, 15] [(0, pt t), (4, .int .i64 0), (9, .slice Fa 4 fc), (10, .int .i64 4), (11, .int .i64 1), (15, .func (.func 49) #[pt t] #[])] 1 ?_
      refine RunR.st (some 16) (.call { callee := .value (.tmp 15), args := #[], argTypes := #[] }) (Step.cl 49 [pt t] [blk t 76 [pt d, .slice La lm lc], blk d 70 [.slice A n c, .slice Wb20 m221 wc222, .int .i64 lf324, .bool dn325], row 5 1 (.slice A n c) n (nums .u8 ss219), row 51 2 (.slice Wb20 m221 wc222) m221 (chV ws223), chd .u8 ws223] [vw La (chV ls), vws (chL ls)] [vw Fa [.func (.func 48) #[pt t] #[], .func (.func 49) #[pt t] #[], .func (.func 42) #[pt t] #[], .func (.func 43) #[pt t] #[]], vw La (chV ls), vws (chL ls)] (wl_mark_spec t d A n c ss219 Wb20 m221 wc222 ws223 lf324 dn325 La lm lc ls hp27 (by assumption) (by assumption) (fun h => hAs (by exact h)) (by assumption) (by assumption) (by assumption) (by omega) (by assumption) (by assumption) (fun h => hp33 (by exact h)) (by assumption) (by assumption) (by assumption) (by assumption) (by assumption) (by assumption)) [4, 0, 0, 0, 0] (((Lend.nil _).same 2 (vws (chL ls)) (by kernel_rfl) rfl).tells 1 (vw La (chV ls)) La (chV ls) (by kernel_rfl) (tells_vw _ _)) ?_)
      rintro _ _ ⟨e36, Wb37, m238, wc239, ws240, lf241, dn242, rfl, rfl, hp43, hp44, hp45, hp46, hp47, hp48, hp49⟩
      refine RunR.sl hU [] 1 3 [0, 4, 7, 9, 10, 11] [(0, pt t), (4, .int .i64 0), (7, .int .i64 e36), (9, .slice Fa 4 fc), (10, .int .i64 4), (11, .int .i64 1)] 1 ?_
      refine RunR.nx ?_
      refine RunR.sl hU [] 2 2 [0, 4, 7, 9, 10, 11, 18] [(0, pt t), (4, .int .i64 0), (7, .int .i64 e36), (9, .slice Fa 4 fc), (10, .int .i64 4), (11, .int .i64 1), (18, .bool (!decide (e36 = 0)))] 2 ?_
      refine RunR.nn ?_
      refine RunC.condn (e36 = 0) (by kernel_rfl) (fun h50 => ?_) (fun h50 => ?_)
      · skip
        refine RunC.sr ?_
        refine RunR.sl hU [] 2 2 [0, 4, 9, 10, 11] [(0, pt t), (4, .int .i64 e36), (9, .slice Fa 4 fc), (10, .int .i64 4), (11, .int .i64 1)] 2 ?_
        refine RunR.nn ?_
        refine RunC.ret ?_
        refine kseq_r ?_
        refine kblock_r ?_
        refine kseq_r ?_
        refine kround_r ?_
        refine kblock_r ?_
        refine kseq_r ?_
        refine kret_r [.int .i64 e36] [0, 0, 0, 0, 0] [blk t 76 [pt d, .slice La lm lc], blk d 70 [.slice A n c, .slice Wb37 m238 wc239, .int .i64 lf241, .bool dn242], row 5 1 (.slice A n c) n (nums .u8 ss219), row 51 2 (.slice Wb37 m238 wc239) m238 (chV ws240), chd .u8 ws240] ⟨rfl, trivial⟩ (by kernel_rfl) rfl ⟨e36, ss219, Wb37, m238, wc239, ws240, lf241, dn242, rfl, rfl, (by exact (phs_k (by assumption) (by assumption) (by assumption) (by assumption) (phs_w (by assumption) (by assumption)))), (by assumption), (by assumption), (by assumption), (by omega), (by assumption), (by assumption), (by assumption), (by assumption)⟩
      · skip
        refine RunC.ksr ?_
        refine RunR.sl hU [] 3 3 [0, 4, 9, 10, 11, 22] [(0, pt t), (4, .int .i64 0), (9, .slice Fa 4 fc), (10, .int .i64 4), (11, .int .i64 1), (22, pt t)] 3 ?_
        refine RunR.st (some 23) (.load 30 (.tmp 22)) (Step.load_blk hU 0 t (0) 76 [pt d, .slice La lm lc] (pt d) (by kernel_rfl) (by kernel_rfl) (by kernel_rfl) (by kernel_rfl) ?_)
        refine RunR.st (some 24) (.call { callee := .value (.func 47), args := #[.tmp 23], argTypes := #[30] }) (Step.cn 47 [pt d] [blk d 70 [.slice A n c, .slice Wb37 m238 wc239, .int .i64 lf241, .bool dn242], row 5 1 (.slice A n c) n (nums .u8 ss219), row 51 2 (.slice Wb37 m238 wc239) m238 (chV ws240), chd .u8 ws240] [blk t 76 [pt d, .slice La lm lc], vw Fa [.func (.func 48) #[pt t] #[], .func (.func 49) #[pt t] #[], .func (.func 42) #[pt t] #[], .func (.func 43) #[pt t] #[]], vw La (chV ls), vws (chL ls)] (d_Sync_spec d A n c ss219 Wb37 m238 wc239 ws240 lf241 dn242 hp27 (by assumption) (by assumption) (fun h => hAs (by exact h)) (by assumption) (by assumption) (by assumption) (by omega) (by assumption) (by assumption) (fun h => hp48 (by exact h)) (by assumption)) [1, 1, 1, 1] ?_)
        rintro _ _ ⟨e51, ss252, Wb53, m254, wc255, ws256, lf357, dn358, rfl, rfl, hp59, hp60, hp61, hp62, hp63, hp64, hp65, hp66, hp67⟩
        refine RunR.sl hU [] 1 6 [0, 4, 8, 9, 10, 11] [(0, pt t), (4, .int .i64 0), (8, .int .i64 e51), (9, .slice Fa 4 fc), (10, .int .i64 4), (11, .int .i64 1)] 1 ?_
        refine RunR.nx ?_
        refine RunR.sl hU [] 2 2 [0, 4, 8, 9, 10, 11, 26] [(0, pt t), (4, .int .i64 0), (8, .int .i64 e51), (9, .slice Fa 4 fc), (10, .int .i64 4), (11, .int .i64 1), (26, .bool (!decide (e51 = 0)))] 2 ?_
        refine RunR.nn ?_
        refine RunC.condn (e51 = 0) (by kernel_rfl) (fun h68 => ?_) (fun h68 => ?_)
        · skip
          refine RunC.sr ?_
          refine RunR.sl hU [] 2 2 [0, 4, 9, 10, 11] [(0, pt t), (4, .int .i64 e51), (9, .slice Fa 4 fc), (10, .int .i64 4), (11, .int .i64 1)] 2 ?_
          refine RunR.nn ?_
          refine RunC.ret ?_
          refine kblock_r ?_
          refine kseq_r ?_
          refine kround_r ?_
          refine kblock_r ?_
          refine kseq_r ?_
          refine kret_r [.int .i64 e51] [4, 0, 0, 0, 0] [blk t 76 [pt d, .slice La lm lc], blk d 70 [.slice A n c, .slice Wb53 m254 wc255, .int .i64 lf357, .bool dn358], row 5 1 (.slice A n c) n (nums .u8 ss252), row 51 2 (.slice Wb53 m254 wc255) m254 (chV ws256), chd .u8 ws256] ⟨rfl, trivial⟩ (by kernel_rfl) rfl ⟨e51, ss252, Wb53, m254, wc255, ws256, lf357, dn358, rfl, rfl, (by exact (phs_k (by assumption) (by assumption) (by assumption) (by assumption) (phs_s (by assumption) (by assumption) (by assumption) (by assumption)))), (by assumption), (by assumption), (by assumption), (by omega), (by assumption), (by assumption), (by assumption), (by assumption)⟩
        · skip
          refine RunC.skip ?_
          refine kblock_n ?_
          refine kseq_n ?_
          refine RunC.region ?_
          refine RunR.sil hU [0] 2 2 [0, 4, 9, 10, 11] [(0, pt t), (4, .int .i64 0), (9, .slice Fa 4 fc), (10, .int .i64 4), (11, .int .i64 2)] ((-9223372036854775808 ≤ ((1 : Int) + 1) ∧ ((1 : Int) + 1) < 9223372036854775808) ∧ (True) ∧ True) rfl (by kernel_rfl) ⟨(by decide), trivial, trivial⟩ ?_
          refine RunR.dn ?_
          refine kround_n ?_
          refine RunC.sr ?_
          refine RunR.sl hU [] 1 1 [0, 4, 9, 10, 11, 12] [(0, pt t), (4, .int .i64 0), (9, .slice Fa 4 fc), (10, .int .i64 4), (11, .int .i64 2), (12, .bool true)] 1 ?_
          refine RunR.nn ?_
          refine RunC.seq ?_
          refine RunC.cond (b := true) (by kernel_rfl) (fun _ => ?_) (fun h => by cases h)
          refine RunC.ks ?_
          refine RunC.seq ?_
          refine RunC.block ?_
          refine RunC.sr ?_
          refine RunR.sil hU [] 1 1 [0, 4, 9, 10, 11, 13] [(0, pt t), (4, .int .i64 0), (9, .slice Fa 4 fc), (10, .int .i64 4), (11, .int .i64 2), (13, .pointer (elemAt Fa 2 1))] (((0 ≤ (2 : Int) ∧ (2 : Int) < ((4 : Nat) : Int)) ∧ Option.isSome Fa = true) ∧ True) rfl (by kernel_rfl) ⟨⟨by omega, hA1 (by omega)⟩, trivial⟩ ?_
          refine RunR.st (some 14) (.load 52 (.tmp 13)) (Step.load_of hU 5 (vw Fa [.func (.func 48) #[pt t] #[], .func (.func 49) #[pt t] #[], .func (.func 42) #[pt t] #[], .func (.func 43) #[pt t] #[]]) Fa 2 1 [.func (.func 48) #[pt t] #[], .func (.func 49) #[pt t] #[], .func (.func 42) #[pt t] #[], .func (.func 43) #[pt t] #[]] (.func (.func 42) #[pt t] #[]) (by kernel_rfl) (by kernel_rfl) (tells_vw _ _) (by kernel_rfl) (by kernel_rfl) (by simp) ?_)
          refine RunR.sl hU [] 1 3 [0, 4, 6, 9, 10, 11] [(0, pt t), (4, .int .i64 0), (6, .func (.func 42) #[pt t] #[]), (9, .slice Fa 4 fc), (10, .int .i64 4), (11, .int .i64 2)] 1 ?_
          refine RunR.nn ?_
          refine RunC.seq ?_
          refine RunC.sr ?_
          refine RunR.sl hU [] 1 1 [0, 4, 9, 10, 11, 15] [(0, pt t), (4, .int .i64 0), (9, .slice Fa 4 fc), (10, .int .i64 4), (11, .int .i64 2), (15, .func (.func 42) #[pt t] #[])] 1 ?_
          refine RunR.st (some 16) (.call { callee := .value (.tmp 15), args := #[], argTypes := #[] }) (Step.cl 42 [pt t] [blk t 76 [pt d, .slice La lm lc], blk d 70 [.slice A n c, .slice Wb53 m254 wc255, .int .i64 lf357, .bool dn358], row 5 1 (.slice A n c) n (nums .u8 ss252), row 51 2 (.slice Wb53 m254 wc255) m254 (chV ws256), chd .u8 ws256] [vw La (chV ls), vws (chL ls)] [vw Fa [.func (.func 48) #[pt t] #[], .func (.func 49) #[pt t] #[], .func (.func 42) #[pt t] #[], .func (.func 43) #[pt t] #[]], vw La (chV ls), vws (chL ls)] (wl_lay_spec t d A n c ss252 Wb53 m254 wc255 ws256 lf357 dn358 La lm lc ls hp60 (by assumption) (by assumption) (fun h => hAs (by exact h)) (by assumption) (by assumption) (by assumption) (by omega) (by assumption) (by assumption) (fun h => hp66 (by exact h)) (by assumption) (by assumption) (by assumption) (by assumption) (by assumption) (by assumption)) [4, 0, 0, 0, 0] (((Lend.nil _).same 2 (vws (chL ls)) (by kernel_rfl) rfl).tells 1 (vw La (chV ls)) La (chV ls) (by kernel_rfl) (tells_vw _ _)) ?_)
          rintro _ _ ⟨e69, Wb70, m271, wc272, ws273, lf274, dn275, rfl, rfl, hp76, hp77, hp78, hp79, hp80, hp81, hp82⟩
          refine RunR.sl hU [] 1 3 [0, 4, 7, 9, 10, 11] [(0, pt t), (4, .int .i64 0), (7, .int .i64 e69), (9, .slice Fa 4 fc), (10, .int .i64 4), (11, .int .i64 2)] 1 ?_
          refine RunR.nx ?_
          refine RunR.sl hU [] 2 2 [0, 4, 7, 9, 10, 11, 18] [(0, pt t), (4, .int .i64 0), (7, .int .i64 e69), (9, .slice Fa 4 fc), (10, .int .i64 4), (11, .int .i64 2), (18, .bool (!decide (e69 = 0)))] 2 ?_
          refine RunR.nn ?_
          refine RunC.condn (e69 = 0) (by kernel_rfl) (fun h83 => ?_) (fun h83 => ?_)
          · skip
            refine RunC.sr ?_
            refine RunR.sl hU [] 2 2 [0, 4, 9, 10, 11] [(0, pt t), (4, .int .i64 e69), (9, .slice Fa 4 fc), (10, .int .i64 4), (11, .int .i64 2)] 2 ?_
            refine RunR.nn ?_
            refine RunC.ret ?_
            refine kseq_r ?_
            refine kblock_r ?_
            refine kseq_r ?_
            refine kround_r ?_
            refine kblock_r ?_
            refine kseq_r ?_
            refine kret_r [.int .i64 e69] [0, 0, 0, 0, 0] [blk t 76 [pt d, .slice La lm lc], blk d 70 [.slice A n c, .slice Wb70 m271 wc272, .int .i64 lf274, .bool dn275], row 5 1 (.slice A n c) n (nums .u8 ss252), row 51 2 (.slice Wb70 m271 wc272) m271 (chV ws273), chd .u8 ws273] ⟨rfl, trivial⟩ (by kernel_rfl) rfl ⟨e69, ss252, Wb70, m271, wc272, ws273, lf274, dn275, rfl, rfl, (by exact (phs_k (by assumption) (by assumption) (by assumption) (by assumption) (phs_k (by assumption) (by assumption) (by assumption) (by assumption) (phs_w (by assumption) (by assumption))))), (by assumption), (by assumption), (by assumption), (by omega), (by assumption), (by assumption), (by assumption), (by assumption)⟩
          · skip
            refine RunC.ksr ?_
            refine RunR.sl hU [] 3 3 [0, 4, 9, 10, 11, 22] [(0, pt t), (4, .int .i64 0), (9, .slice Fa 4 fc), (10, .int .i64 4), (11, .int .i64 2), (22, pt t)] 3 ?_
            refine RunR.st (some 23) (.load 30 (.tmp 22)) (Step.load_blk hU 0 t (0) 76 [pt d, .slice La lm lc] (pt d) (by kernel_rfl) (by kernel_rfl) (by kernel_rfl) (by kernel_rfl) ?_)
            refine RunR.st (some 24) (.call { callee := .value (.func 47), args := #[.tmp 23], argTypes := #[30] }) (Step.cn 47 [pt d] [blk d 70 [.slice A n c, .slice Wb70 m271 wc272, .int .i64 lf274, .bool dn275], row 5 1 (.slice A n c) n (nums .u8 ss252), row 51 2 (.slice Wb70 m271 wc272) m271 (chV ws273), chd .u8 ws273] [blk t 76 [pt d, .slice La lm lc], vw Fa [.func (.func 48) #[pt t] #[], .func (.func 49) #[pt t] #[], .func (.func 42) #[pt t] #[], .func (.func 43) #[pt t] #[]], vw La (chV ls), vws (chL ls)] (d_Sync_spec d A n c ss252 Wb70 m271 wc272 ws273 lf274 dn275 hp60 (by assumption) (by assumption) (fun h => hAs (by exact h)) (by assumption) (by assumption) (by assumption) (by omega) (by assumption) (by assumption) (fun h => hp81 (by exact h)) (by assumption)) [1, 1, 1, 1] ?_)
            rintro _ _ ⟨e84, ss285, Wb86, m287, wc288, ws289, lf390, dn391, rfl, rfl, hp92, hp93, hp94, hp95, hp96, hp97, hp98, hp99, hp100⟩
            refine RunR.sl hU [] 1 6 [0, 4, 8, 9, 10, 11] [(0, pt t), (4, .int .i64 0), (8, .int .i64 e84), (9, .slice Fa 4 fc), (10, .int .i64 4), (11, .int .i64 2)] 1 ?_
            refine RunR.nx ?_
            refine RunR.sl hU [] 2 2 [0, 4, 8, 9, 10, 11, 26] [(0, pt t), (4, .int .i64 0), (8, .int .i64 e84), (9, .slice Fa 4 fc), (10, .int .i64 4), (11, .int .i64 2), (26, .bool (!decide (e84 = 0)))] 2 ?_
            refine RunR.nn ?_
            refine RunC.condn (e84 = 0) (by kernel_rfl) (fun h101 => ?_) (fun h101 => ?_)
            · skip
              refine RunC.sr ?_
              refine RunR.sl hU [] 2 2 [0, 4, 9, 10, 11] [(0, pt t), (4, .int .i64 e84), (9, .slice Fa 4 fc), (10, .int .i64 4), (11, .int .i64 2)] 2 ?_
              refine RunR.nn ?_
              refine RunC.ret ?_
              refine kblock_r ?_
              refine kseq_r ?_
              refine kround_r ?_
              refine kblock_r ?_
              refine kseq_r ?_
              refine kret_r [.int .i64 e84] [4, 0, 0, 0, 0] [blk t 76 [pt d, .slice La lm lc], blk d 70 [.slice A n c, .slice Wb86 m287 wc288, .int .i64 lf390, .bool dn391], row 5 1 (.slice A n c) n (nums .u8 ss285), row 51 2 (.slice Wb86 m287 wc288) m287 (chV ws289), chd .u8 ws289] ⟨rfl, trivial⟩ (by kernel_rfl) rfl ⟨e84, ss285, Wb86, m287, wc288, ws289, lf390, dn391, rfl, rfl, (by exact (phs_k (by assumption) (by assumption) (by assumption) (by assumption) (phs_k (by assumption) (by assumption) (by assumption) (by assumption) (phs_s (by assumption) (by assumption) (by assumption) (by assumption))))), (by assumption), (by assumption), (by assumption), (by omega), (by assumption), (by assumption), (by assumption), (by assumption)⟩
            · skip
              refine RunC.skip ?_
              refine kblock_n ?_
              refine kseq_n ?_
              refine RunC.region ?_
              refine RunR.sil hU [0] 2 2 [0, 4, 9, 10, 11] [(0, pt t), (4, .int .i64 0), (9, .slice Fa 4 fc), (10, .int .i64 4), (11, .int .i64 3)] ((-9223372036854775808 ≤ ((2 : Int) + 1) ∧ ((2 : Int) + 1) < 9223372036854775808) ∧ (True) ∧ True) rfl (by kernel_rfl) ⟨(by decide), trivial, trivial⟩ ?_
              refine RunR.dn ?_
              refine kround_n ?_
              refine RunC.sr ?_
              refine RunR.sl hU [] 1 1 [0, 4, 9, 10, 11, 12] [(0, pt t), (4, .int .i64 0), (9, .slice Fa 4 fc), (10, .int .i64 4), (11, .int .i64 3), (12, .bool true)] 1 ?_
              refine RunR.nn ?_
              refine RunC.seq ?_
              refine RunC.cond (b := true) (by kernel_rfl) (fun _ => ?_) (fun h => by cases h)
              refine RunC.ks ?_
              refine RunC.seq ?_
              refine RunC.block ?_
              refine RunC.sr ?_
              refine RunR.sil hU [] 1 1 [0, 4, 9, 10, 11, 13] [(0, pt t), (4, .int .i64 0), (9, .slice Fa 4 fc), (10, .int .i64 4), (11, .int .i64 3), (13, .pointer (elemAt Fa 3 1))] (((0 ≤ (3 : Int) ∧ (3 : Int) < ((4 : Nat) : Int)) ∧ Option.isSome Fa = true) ∧ True) rfl (by kernel_rfl) ⟨⟨by omega, hA1 (by omega)⟩, trivial⟩ ?_
              refine RunR.st (some 14) (.load 52 (.tmp 13)) (Step.load_of hU 5 (vw Fa [.func (.func 48) #[pt t] #[], .func (.func 49) #[pt t] #[], .func (.func 42) #[pt t] #[], .func (.func 43) #[pt t] #[]]) Fa 3 1 [.func (.func 48) #[pt t] #[], .func (.func 49) #[pt t] #[], .func (.func 42) #[pt t] #[], .func (.func 43) #[pt t] #[]] (.func (.func 43) #[pt t] #[]) (by kernel_rfl) (by kernel_rfl) (tells_vw _ _) (by kernel_rfl) (by kernel_rfl) (by simp) ?_)
              refine RunR.sl hU [] 1 3 [0, 4, 6, 9, 10, 11] [(0, pt t), (4, .int .i64 0), (6, .func (.func 43) #[pt t] #[]), (9, .slice Fa 4 fc), (10, .int .i64 4), (11, .int .i64 3)] 1 ?_
              refine RunR.nn ?_
              refine RunC.seq ?_
              refine RunC.sr ?_
              refine RunR.sl hU [] 1 1 [0, 4, 9, 10, 11, 15] [(0, pt t), (4, .int .i64 0), (9, .slice Fa 4 fc), (10, .int .i64 4), (11, .int .i64 3), (15, .func (.func 43) #[pt t] #[])] 1 ?_
              refine RunR.st (some 16) (.call { callee := .value (.tmp 15), args := #[], argTypes := #[] }) (Step.cn 43 [pt t] [blk t 76 [pt d, .slice La lm lc], blk d 70 [.slice A n c, .slice Wb86 m287 wc288, .int .i64 lf390, .bool dn391], row 5 1 (.slice A n c) n (nums .u8 ss285), row 51 2 (.slice Wb86 m287 wc288) m287 (chV ws289), chd .u8 ws289] [vw Fa [.func (.func 48) #[pt t] #[], .func (.func 49) #[pt t] #[], .func (.func 42) #[pt t] #[], .func (.func 43) #[pt t] #[]], vw La (chV ls), vws (chL ls)] (wl_forget_spec t d A n c ss285 Wb86 m287 wc288 ws289 lf390 dn391 La lm lc hp93 (by assumption) (by assumption) (fun h => hAs (by exact h)) (by assumption) (by assumption) (by assumption) (by omega) (by assumption) (by assumption) (fun h => hp99 (by exact h)) (by assumption) (by assumption)) [4, 0, 0, 0, 0] ?_)
              rintro _ _ ⟨e102, Wb103, m2104, wc2105, ws2106, lf2107, dn2108, rfl, rfl, hp109, hp110, hp111, hp112, hp113, hp114, hp115⟩
              refine RunR.sl hU [] 1 3 [0, 4, 7, 9, 10, 11] [(0, pt t), (4, .int .i64 0), (7, .int .i64 e102), (9, .slice Fa 4 fc), (10, .int .i64 4), (11, .int .i64 3)] 1 ?_
              refine RunR.nx ?_
              refine RunR.sl hU [] 2 2 [0, 4, 7, 9, 10, 11, 18] [(0, pt t), (4, .int .i64 0), (7, .int .i64 e102), (9, .slice Fa 4 fc), (10, .int .i64 4), (11, .int .i64 3), (18, .bool (!decide (e102 = 0)))] 2 ?_
              refine RunR.nn ?_
              refine RunC.condn (e102 = 0) (by kernel_rfl) (fun h116 => ?_) (fun h116 => ?_)
              · skip
                refine RunC.sr ?_
                refine RunR.sl hU [] 2 2 [0, 4, 9, 10, 11] [(0, pt t), (4, .int .i64 e102), (9, .slice Fa 4 fc), (10, .int .i64 4), (11, .int .i64 3)] 2 ?_
                refine RunR.nn ?_
                refine RunC.ret ?_
                refine kseq_r ?_
                refine kblock_r ?_
                refine kseq_r ?_
                refine kround_r ?_
                refine kblock_r ?_
                refine kseq_r ?_
                refine kret_r [.int .i64 e102] [0, 0, 0, 0, 0] [blk t 76 [pt d, .slice La lm lc], blk d 70 [.slice A n c, .slice Wb103 m2104 wc2105, .int .i64 lf2107, .bool dn2108], row 5 1 (.slice A n c) n (nums .u8 ss285), row 51 2 (.slice Wb103 m2104 wc2105) m2104 (chV ws2106), chd .u8 ws2106] ⟨rfl, trivial⟩ (by kernel_rfl) rfl ⟨e102, ss285, Wb103, m2104, wc2105, ws2106, lf2107, dn2108, rfl, rfl, (by exact (phs_k (by assumption) (by assumption) (by assumption) (by assumption) (phs_k (by assumption) (by assumption) (by assumption) (by assumption) (phs_k (by assumption) (by assumption) (by assumption) (by assumption) (phs_w (by assumption) (by assumption)))))), (by assumption), (by assumption), (by assumption), (by omega), (by assumption), (by assumption), (by assumption), (by assumption)⟩
              · skip
                refine RunC.ksr ?_
                refine RunR.sl hU [] 3 3 [0, 4, 9, 10, 11, 22] [(0, pt t), (4, .int .i64 0), (9, .slice Fa 4 fc), (10, .int .i64 4), (11, .int .i64 3), (22, pt t)] 3 ?_
                refine RunR.st (some 23) (.load 30 (.tmp 22)) (Step.load_blk hU 0 t (0) 76 [pt d, .slice La lm lc] (pt d) (by kernel_rfl) (by kernel_rfl) (by kernel_rfl) (by kernel_rfl) ?_)
                refine RunR.st (some 24) (.call { callee := .value (.func 47), args := #[.tmp 23], argTypes := #[30] }) (Step.cn 47 [pt d] [blk d 70 [.slice A n c, .slice Wb103 m2104 wc2105, .int .i64 lf2107, .bool dn2108], row 5 1 (.slice A n c) n (nums .u8 ss285), row 51 2 (.slice Wb103 m2104 wc2105) m2104 (chV ws2106), chd .u8 ws2106] [blk t 76 [pt d, .slice La lm lc], vw Fa [.func (.func 48) #[pt t] #[], .func (.func 49) #[pt t] #[], .func (.func 42) #[pt t] #[], .func (.func 43) #[pt t] #[]], vw La (chV ls), vws (chL ls)] (d_Sync_spec d A n c ss285 Wb103 m2104 wc2105 ws2106 lf2107 dn2108 hp93 (by assumption) (by assumption) (fun h => hAs (by exact h)) (by assumption) (by assumption) (by assumption) (by omega) (by assumption) (by assumption) (fun h => hp114 (by exact h)) (by assumption)) [1, 1, 1, 1] ?_)
                rintro _ _ ⟨e117, ss2118, Wb119, m2120, wc2121, ws2122, lf3123, dn3124, rfl, rfl, hp125, hp126, hp127, hp128, hp129, hp130, hp131, hp132, hp133⟩
                refine RunR.sl hU [] 1 6 [0, 4, 8, 9, 10, 11] [(0, pt t), (4, .int .i64 0), (8, .int .i64 e117), (9, .slice Fa 4 fc), (10, .int .i64 4), (11, .int .i64 3)] 1 ?_
                refine RunR.nx ?_
                refine RunR.sl hU [] 2 2 [0, 4, 8, 9, 10, 11, 26] [(0, pt t), (4, .int .i64 0), (8, .int .i64 e117), (9, .slice Fa 4 fc), (10, .int .i64 4), (11, .int .i64 3), (26, .bool (!decide (e117 = 0)))] 2 ?_
                refine RunR.nn ?_
                refine RunC.condn (e117 = 0) (by kernel_rfl) (fun h134 => ?_) (fun h134 => ?_)
                · skip
                  refine RunC.sr ?_
                  refine RunR.sl hU [] 2 2 [0, 4, 9, 10, 11] [(0, pt t), (4, .int .i64 e117), (9, .slice Fa 4 fc), (10, .int .i64 4), (11, .int .i64 3)] 2 ?_
                  refine RunR.nn ?_
                  refine RunC.ret ?_
                  refine kblock_r ?_
                  refine kseq_r ?_
                  refine kround_r ?_
                  refine kblock_r ?_
                  refine kseq_r ?_
                  refine kret_r [.int .i64 e117] [4, 0, 0, 0, 0] [blk t 76 [pt d, .slice La lm lc], blk d 70 [.slice A n c, .slice Wb119 m2120 wc2121, .int .i64 lf3123, .bool dn3124], row 5 1 (.slice A n c) n (nums .u8 ss2118), row 51 2 (.slice Wb119 m2120 wc2121) m2120 (chV ws2122), chd .u8 ws2122] ⟨rfl, trivial⟩ (by kernel_rfl) rfl ⟨e117, ss2118, Wb119, m2120, wc2121, ws2122, lf3123, dn3124, rfl, rfl, (by exact (phs_k (by assumption) (by assumption) (by assumption) (by assumption) (phs_k (by assumption) (by assumption) (by assumption) (by assumption) (phs_k (by assumption) (by assumption) (by assumption) (by assumption) (phs_s (by assumption) (by assumption) (by assumption) (by assumption)))))), (by assumption), (by assumption), (by assumption), (by omega), (by assumption), (by assumption), (by assumption), (by assumption)⟩
                · skip
                  refine RunC.skip ?_
                  refine kblock_n ?_
                  refine kseq_n ?_
                  refine RunC.region ?_
                  refine RunR.sil hU [0] 2 2 [0, 4, 9, 10, 11] [(0, pt t), (4, .int .i64 0), (9, .slice Fa 4 fc), (10, .int .i64 4), (11, .int .i64 4)] ((-9223372036854775808 ≤ ((3 : Int) + 1) ∧ ((3 : Int) + 1) < 9223372036854775808) ∧ (True) ∧ True) rfl (by kernel_rfl) ⟨(by decide), trivial, trivial⟩ ?_
                  refine RunR.dn ?_
                  refine kround_n ?_
                  refine RunC.sr ?_
                  refine RunR.sl hU [] 1 1 [0, 4, 9, 10, 11, 12] [(0, pt t), (4, .int .i64 0), (9, .slice Fa 4 fc), (10, .int .i64 4), (11, .int .i64 4), (12, .bool false)] 1 ?_
                  refine RunR.nn ?_
                  refine RunC.seq ?_
                  refine RunC.cond (b := false) (by kernel_rfl) (fun h => by cases h) (fun _ => ?_)
                  refine RunC.exit ?_
                  refine kseq_e ?_
                  refine kround_e ?_
                  refine kblock_e ?_
                  refine kseq_n ?_
                  refine RunC.sr ?_
                  refine RunR.sl hU [] 1 1 [4] [(4, .int .i64 0)] 1 ?_
                  refine RunR.nn ?_
                  refine RunC.ret ?_
                  refine kret_r [.int .i64 0] [4, 0, 0, 0, 0] [blk t 76 [pt d, .slice La lm lc], blk d 70 [.slice A n c, .slice Wb119 m2120 wc2121, .int .i64 lf3123, .bool dn3124], row 5 1 (.slice A n c) n (nums .u8 ss2118), row 51 2 (.slice Wb119 m2120 wc2121) m2120 (chV ws2122), chd .u8 ws2122] ⟨rfl, trivial⟩ (by kernel_rfl) rfl ⟨0, ss2118, Wb119, m2120, wc2121, ws2122, lf3123, dn3124, rfl, rfl, (by exact (phs_k (by assumption) (by assumption) (by assumption) (by assumption) (phs_k (by assumption) (by assumption) (by assumption) (by assumption) (phs_k (by assumption) (by assumption) (by assumption) (by assumption) (phs_k (by assumption) (by assumption) (by assumption) (by assumption) (phs_nil rfl)))))), (by assumption), (by assumption), (by assumption), (by omega), (by assumption), (by assumption), (by assumption), (by assumption)⟩

theorem wl_Open_spec (d : Nat) (A : Option Addr) (n : Nat) (c : Nat) (ss : List Int) (Wa : Option Addr) (m : Nat) (wc : Nat) (ws : List Ch) (lf : Int) (dn : Bool) (hss : In .u8 ss) (hnl : ss.length = n) (hnc : n ≤ c) (hAs : 0 < n → Option.isSome A = true) (hn6 : n % 256 = 0) (hnb : n ≤ 557056) (hml : ws.length = m) (hmb : m ≤ 800000) (hok : ChOK .u8 ws) (hwk : WOK n ws) (hWs : 0 < m → Option.isSome Wa = true) (hlf : 0 ≤ lf ∧ lf < 9223372036854775808) :
    CallsS Try.prog 14 [pt d] [blk d 70 [.slice A n c, .slice Wa m wc, .int .i64 lf, .bool dn], row 5 1 (.slice A n c) n (nums .u8 ss), row 51 2 (.slice Wa m wc) m (chV ws), chd .u8 ws] (fun r D => (r = .tuple #[.pointer none, .int .i64 1] ∧ D = [blk d 70 [.slice A n c, .slice Wa m wc, .int .i64 lf, .bool dn], row 5 1 (.slice A n c) n (nums .u8 ss), row 51 2 (.slice Wa m wc) m (chV ws), chd .u8 ws] ∧ (¬ 256 * 43 ≤ n)) ∨ (∃ (e : Int) (ss2 : List Int) (Wb : Option Addr) (m2 : Nat) (wc2 : Nat) (ws2 : List Ch) (lf3 : Int) (dn3 : Bool), r = .tuple #[.pointer none, .int .i64 e] ∧ D = [blk d 70 [.slice A n c, .slice Wb m2 wc2, .int .i64 lf3, .bool dn3], row 5 1 (.slice A n c) n (nums .u8 ss2), row 51 2 (.slice Wb m2 wc2) m2 (chV ws2), chd .u8 ws2] ∧ ((e, ss2, dat ws2, lf3, dn3) = phs n ss (dat ws) lf dn (openL (logged n ss (dat ws)))) ∧ (In .u8 ss2) ∧ (ss2.length = n) ∧ (ws2.length = m2) ∧ (m2 ≤ m + 82) ∧ (ChOK .u8 ws2) ∧ (WOK n ws2) ∧ (0 < m2 → Option.isSome Wb = true) ∧ (0 ≤ lf3 ∧ lf3 < 9223372036854775808) ∧ (256 * 43 ≤ n) ∧ (¬ e = 0)) ∨ (∃ (w2 : Nat) (ss2 : List Int) (Wb : Option Addr) (m2 : Nat) (wc2 : Nat) (ws2 : List Ch) (lf3 : Int) (dn3 : Bool), r = .tuple #[pt w2, .int .i64 0] ∧ D = [blk w2 72 [pt d], blk d 70 [.slice A n c, .slice Wb m2 wc2, .int .i64 lf3, .bool dn3], row 5 1 (.slice A n c) n (nums .u8 ss2), row 51 2 (.slice Wb m2 wc2) m2 (chV ws2), chd .u8 ws2] ∧ ((0, ss2, dat ws2, lf3, dn3) = phs n ss (dat ws) lf dn (openL (logged n ss (dat ws)))) ∧ (In .u8 ss2) ∧ (ss2.length = n) ∧ (ws2.length = m2) ∧ (m2 ≤ m + 82) ∧ (ChOK .u8 ws2) ∧ (WOK n ws2) ∧ (0 < m2 → Option.isSome Wb = true) ∧ (0 ≤ lf3 ∧ lf3 < 9223372036854775808) ∧ (256 * 43 ≤ n))) := by
  refine CallsS.enter hU Try.f14 _ [.tmp 2, .tmp 3] 29 Try.func14 rfl (by decide) rfl rfl (by kernel_rfl) fun w0 W => ?_
  refine RunC.sr ?_
  refine RunR.sl hU [] 2 2 [0, 2, 3] [(0, pt d), (2, .pointer none), (3, .int .i64 0)] 2 ?_
  refine RunR.nx ?_
  refine RunR.sl hU [] 2 2 [0, 2, 3, 8] [(0, pt d), (2, .pointer none), (3, .int .i64 0), (8, .agg #[pt d])] 2 ?_
  refine RunR.st (some 9) (.box 72 (.tmp 8)) (Step.box (.agg #[pt d]) (by kernel_rfl) (by kernel_rfl) (fun b1 => ?_))
  refine RunR.sl hU [] 1 4 [0, 2, 3, 4] [(0, pt d), (2, .pointer none), (3, .int .i64 0), (4, pt b1)] 1 ?_
  refine RunR.nn ?_
  refine RunC.seq ?_
  refine RunC.sr ?_
  refine RunR.sl hU [] 1 1 [0, 2, 3, 4, 10] [(0, pt d), (2, .pointer none), (3, .int .i64 0), (4, pt b1), (10, pt b1)] 1 ?_
  refine RunR.st (some 11) (.call { callee := .value (.func 29), args := #[.tmp 10], argTypes := #[32] }) (Step.cn 29 [pt b1] [blk b1 72 [pt d], blk d 70 [.slice A n c, .slice Wa m wc, .int .i64 lf, .bool dn]] [row 5 1 (.slice A n c) n (nums .u8 ss), row 51 2 (.slice Wa m wc) m (chV ws), chd .u8 ws] (wl_Blocks_spec b1 d A n c Wa m wc lf dn (by assumption) (by assumption)) [0, 0] ?_)
  rintro _ _ ⟨rfl, rfl⟩
  refine RunR.sl hU [] 1 3 [0, 2, 3, 4, 12] [(0, pt d), (2, .pointer none), (3, .int .i64 0), (4, pt b1), (12, .bool (decide ((((n : Nat) : Int) / 256 - 42) < 1)))] 1 ?_
  refine RunR.nn ?_
  refine RunC.condp ((((n : Nat) : Int) / 256 - 42) < 1) (by kernel_rfl) (fun h2 => ?_) (fun h2 => ?_)
  · skip
    refine RunC.sr ?_
    refine RunR.sl hU [] 2 2 [0, 2, 3, 4] [(0, pt d), (2, .pointer none), (3, .int .i64 1), (4, pt b1)] 2 ?_
    refine RunR.nn ?_
    refine RunC.ret ?_
    refine kseq_r ?_
    refine kret_r [.pointer none, .int .i64 1] [1, 1, 1, 1] [blk d 70 [.slice A n c, .slice Wa m wc, .int .i64 lf, .bool dn], row 5 1 (.slice A n c) n (nums .u8 ss), row 51 2 (.slice Wa m wc) m (chV ws), chd .u8 ws] ⟨rfl, rfl, trivial⟩ (by kernel_rfl) rfl (.inl ⟨rfl, rfl, (by omega)⟩)
  · skip
    refine RunC.ksr ?_
    refine RunR.sl hU [] 2 2 [2, 3, 4, 13, 14] [(2, .pointer none), (3, .int .i64 0), (4, pt b1), (13, pt d), (14, pt b1)] 2 ?_
    refine RunR.st (some 15) (.call { callee := .value (.func 40), args := #[.tmp 14], argTypes := #[32] }) (Step.cn 40 [pt b1] [blk b1 72 [pt d], blk d 70 [.slice A n c, .slice Wa m wc, .int .i64 lf, .bool dn], row 5 1 (.slice A n c) n (nums .u8 ss), row 51 2 (.slice Wa m wc) m (chV ws), chd .u8 ws] [] (wl_logged_spec b1 d A n c ss Wa m wc ws lf dn hss (by assumption) (by assumption) (fun h => hAs (by exact h)) (by assumption) (by assumption) (by assumption) (by omega) (by assumption) (by assumption) (fun h => hWs (by exact h)) (by omega)) [0, 0, 0, 0, 0] ?_)
    rintro _ _ ⟨La3, lm4, lc5, ls6, rfl, rfl, hp7, hp8, hp9, hp10, hp11, hp12⟩
    refine RunR.sl hU [] 1 4 [2, 3, 4, 16] [(2, .pointer none), (3, .int .i64 0), (4, pt b1), (16, .agg #[pt d, .slice La3 lm4 lc5])] 1 ?_
    refine RunR.st (some 17) (.box 76 (.tmp 16)) (Step.box (.agg #[pt d, .slice La3 lm4 lc5]) (by kernel_rfl) (by kernel_rfl) (fun b13 => ?_))
    refine RunR.sl hU [] 1 6 [2, 3, 4, 5] [(2, .pointer none), (3, .int .i64 0), (4, pt b1), (5, pt b13)] 1 ?_
    refine RunR.nn ?_
    refine RunC.seq ?_
    refine RunC.sr ?_
    refine RunR.sl hU [] 5 5 [2, 3, 4, 18, 20, 22] [(2, .pointer none), (3, .int .i64 0), (4, pt b1), (18, pt b13), (20, .func (.func 42) #[pt b13] #[]), (22, .func (.func 43) #[pt b13] #[])] 5 ?_
    refine RunR.st (some 23) (.buildSlice 99 2 #[(0, .tmp 20), (1, .tmp 22)]) (Step.lit_vals hU 52 8 (.nilFunc) [.func (.func 42) #[pt b13] #[], .func (.func 43) #[pt b13] #[]] (by kernel_rfl) (by kernel_rfl) (by kernel_rfl) (by simp [Value.cells]) rfl rfl (by kernel_rfl) (fun b14 => ?_))
    refine RunR.st (some 24) (.call { callee := .value (.func 41), args := #[.tmp 18, .tmp 23], argTypes := #[73, 99] }) (Step.cl 41 [pt b13, .slice (some ⟨b14, 0, none⟩) 2 2] [blk b13 76 [pt d, .slice La3 lm4 lc5], blk d 70 [.slice A n c, .slice Wa m wc, .int .i64 lf, .bool dn], row 5 1 (.slice A n c) n (nums .u8 ss), row 51 2 (.slice Wa m wc) m (chV ws), chd .u8 ws] [vw (some ⟨b14, 0, none⟩) [.func (.func 42) #[pt b13] #[], .func (.func 43) #[pt b13] #[]], vw La3 (chV ls6), vws (chL ls6)] [row 52 1 (.slice (some ⟨b14, 0, none⟩) 2 2) 2 [.func (.func 42) #[pt b13] #[], .func (.func 43) #[pt b13] #[]], row 51 2 (.slice La3 lm4 lc5) lm4 (chV ls6), chd .u8 ls6, blk b1 72 [pt d]] (wl_phases2_spec b13 d A n c ss Wa m wc ws lf dn La3 lm4 lc5 ls6 (some ⟨b14, 0, none⟩) 2 hss (by assumption) (by assumption) (fun h => hAs (by exact h)) (by assumption) (by assumption) (by assumption) (by assumption) (by assumption) (by assumption) (fun h => hWs (by exact h)) (by assumption) (by assumption) (by assumption) (by assumption) (by assumption) (by omega)) [1, 4, 4, 4, 4] ((((Lend.nil _).ofChd 2 (by kernel_rfl)).tells 1 (row 51 2 (.slice La3 lm4 lc5) lm4 (chV ls6)) La3 (chV ls6) (by kernel_rfl) (tells_row _ _ _ _ _ _)).tells 0 (row 52 1 (.slice (some ⟨b14, 0, none⟩) 2 2) 2 [.func (.func 42) #[pt b13] #[], .func (.func 43) #[pt b13] #[]]) (some ⟨b14, 0, none⟩) [.func (.func 42) #[pt b13] #[], .func (.func 43) #[pt b13] #[]] (by kernel_rfl) (tells_row _ _ _ _ _ _)) ?_)
    rintro _ _ ⟨e15, ss216, Wb17, m218, wc219, ws220, lf321, dn322, rfl, rfl, hp23, hp24, hp25, hp26, hp27, hp28, hp29, hp30, hp31⟩
    refine RunR.sl hU [] 1 8 [2, 3, 4, 6] [(2, .pointer none), (3, .int .i64 0), (4, pt b1), (6, .int .i64 e15)] 1 ?_
    refine RunR.nx ?_
    refine RunR.sl hU [] 2 2 [2, 3, 4, 6, 26] [(2, .pointer none), (3, .int .i64 0), (4, pt b1), (6, .int .i64 e15), (26, .bool (!decide (e15 = 0)))] 2 ?_
    refine RunR.nn ?_
    refine RunC.condn (e15 = 0) (by kernel_rfl) (fun h32 => ?_) (fun h32 => ?_)
    · skip
      refine RunC.sr ?_
      refine RunR.sl hU [] 3 3 [2, 3, 4] [(2, .pointer none), (3, .int .i64 e15), (4, pt b1)] 3 ?_
      refine RunR.nn ?_
      refine RunC.ret ?_
      refine kseq_r ?_
      refine kret_r [.pointer none, .int .i64 e15] [1, 1, 1, 1] [blk d 70 [.slice A n c, .slice Wb17 m218 wc219, .int .i64 lf321, .bool dn322], row 5 1 (.slice A n c) n (nums .u8 ss216), row 51 2 (.slice Wb17 m218 wc219) m218 (chV ws220), chd .u8 ws220] ⟨rfl, rfl, trivial⟩ (by kernel_rfl) rfl (.inr <| .inl ⟨e15, ss216, Wb17, m218, wc219, ws220, lf321, dn322, rfl, rfl, (by rw [← hp7]; assumption), (by assumption), (by assumption), (by assumption), (by omega), (by assumption), (by assumption), (by assumption), (by assumption), (by omega), (by assumption)⟩)
    · skip
      refine RunC.ksr ?_
      refine RunR.sl hU [] 3 3 [2, 3] [(2, pt b1), (3, .int .i64 0)] 3 ?_
      refine RunR.nn ?_
      refine RunC.ret ?_
      refine kret_r [pt b1, .int .i64 0] [8, 1, 1, 1, 1] [blk b1 72 [pt d], blk d 70 [.slice A n c, .slice Wb17 m218 wc219, .int .i64 lf321, .bool dn322], row 5 1 (.slice A n c) n (nums .u8 ss216), row 51 2 (.slice Wb17 m218 wc219) m218 (chV ws220), chd .u8 ws220] ⟨rfl, rfl, trivial⟩ (by kernel_rfl) rfl (.inr <| .inr ⟨b1, ss216, Wb17, m218, wc219, ws220, lf321, dn322, rfl, rfl, (by rw [← hp7, ← (by assumption : _ = (0 : Int))]; assumption), (by assumption), (by assumption), (by assumption), (by omega), (by assumption), (by assumption), (by assumption), (by assumption), (by omega)⟩)
end Go.Proofs.Ytaaplakahkgclaa.X8
