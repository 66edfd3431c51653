/- The law WalAtomic returns true whatever it is handed: its walk, on the contracts of what it calls. -/
import Derived.Test.YtaaplakahkgclaaSLzk
import Derived.Test.YtaaplakahkgclaaBPure
import Derived.Test.YtaaplakahkgclaaProg
import Derived.Test.YtaaplakahkgclaaX1
import Derived.Test.YtaaplakahkgclaaX2
import Derived.Test.YtaaplakahkgclaaX3
import Derived.Test.YtaaplakahkgclaaX4
import Derived.Test.YtaaplakahkgclaaX5
import Derived.Test.YtaaplakahkgclaaX6
import Derived.Test.YtaaplakahkgclaaX7
import Derived.Test.YtaaplakahkgclaaX8
import Derived.Test.YtaaplakahkgclaaX9
import Derived.Test.YtaaplakahkgclaaY1
import Derived.Test.YtaaplakahkgclaaY2
import Derived.Test.YtaaplakahkgclaaY3
import Derived.Test.YtaaplakahkgclaaY4
namespace Go.Proofs.Ytaaplakahkgclaa.LWalAtomic
open Go Go.Proofs.Ytaaplakahkgclaa.SL Go.Proofs.Ytaaplakahkgclaa.SL.W Go.Proofs.Ytaaplakahkgclaa.SL.D Go.Proofs.Ytaaplakahkgclaa.X1 Go.Proofs.Ytaaplakahkgclaa.X2 Go.Proofs.Ytaaplakahkgclaa.X3 Go.Proofs.Ytaaplakahkgclaa.X4 Go.Proofs.Ytaaplakahkgclaa.X5 Go.Proofs.Ytaaplakahkgclaa.X6 Go.Proofs.Ytaaplakahkgclaa.X7 Go.Proofs.Ytaaplakahkgclaa.X8 Go.Proofs.Ytaaplakahkgclaa.X9 Go.Proofs.Ytaaplakahkgclaa.Y1 Go.Proofs.Ytaaplakahkgclaa.Y2 Go.Proofs.Ytaaplakahkgclaa.Y3 Go.Proofs.Ytaaplakahkgclaa.Y4
set_option linter.unusedVariables false
set_option linter.unusedSimpArgs false
set_option maxRecDepth 100000
set_option maxHeartbeats 40000000
def U : Tab where
  und := [(3, .int .i64), (4, .bool), (5, .int .u8), (22, .slice 3), (23, .slice 5), (24, .slice 4), (25, .struct #[{ name := "Blocks", type := 22, offset := 0, embedded := false, tag := "", pkgPath := "", byteOffset := 0 }, { name := "Bytes", type := 23, offset := 1, embedded := false, tag := "", pkgPath := "", byteOffset := 24 }, { name := "Fall", type := 3, offset := 2, embedded := false, tag := "", pkgPath := "", byteOffset := 48 }, { name := "Keep", type := 24, offset := 3, embedded := false, tag := "", pkgPath := "", byteOffset := 56 }, { name := "Again", type := 3, offset := 4, embedded := false, tag := "", pkgPath := "", byteOffset := 80 }, { name := "Keep2", type := 24, offset := 5, embedded := false, tag := "", pkgPath := "", byteOffset := 88 }]), (26, .struct #[{ name := "Blocks", type := 22, offset := 0, embedded := false, tag := "", pkgPath := "", byteOffset := 0 }, { name := "Bytes", type := 23, offset := 1, embedded := false, tag := "", pkgPath := "", byteOffset := 24 }, { name := "Fall", type := 3, offset := 2, embedded := false, tag := "", pkgPath := "", byteOffset := 48 }, { name := "Keep", type := 24, offset := 3, embedded := false, tag := "", pkgPath := "", byteOffset := 56 }, { name := "Again", type := 3, offset := 4, embedded := false, tag := "", pkgPath := "", byteOffset := 80 }, { name := "Keep2", type := 24, offset := 5, embedded := false, tag := "", pkgPath := "", byteOffset := 88 }]), (28, .slice 51), (30, .pointer 70), (32, .pointer 72), (33, .int .i64), (42, .slice 26), (50, .struct #[{ name := "Block", type := 3, offset := 0, embedded := false, tag := "", pkgPath := "", byteOffset := 0 }, { name := "Data", type := 23, offset := 1, embedded := false, tag := "", pkgPath := "", byteOffset := 8 }]), (51, .struct #[{ name := "Block", type := 3, offset := 0, embedded := false, tag := "", pkgPath := "", byteOffset := 0 }, { name := "Data", type := 23, offset := 1, embedded := false, tag := "", pkgPath := "", byteOffset := 8 }]), (69, .struct #[{ name := "safe", type := 23, offset := 0, embedded := false, tag := "", pkgPath := "orlop/disk", byteOffset := 0 }, { name := "wait", type := 28, offset := 1, embedded := false, tag := "", pkgPath := "orlop/disk", byteOffset := 24 }, { name := "left", type := 3, offset := 2, embedded := false, tag := "", pkgPath := "orlop/disk", byteOffset := 48 }, { name := "down", type := 4, offset := 3, embedded := false, tag := "", pkgPath := "orlop/disk", byteOffset := 56 }]), (70, .struct #[{ name := "safe", type := 23, offset := 0, embedded := false, tag := "", pkgPath := "orlop/disk", byteOffset := 0 }, { name := "wait", type := 28, offset := 1, embedded := false, tag := "", pkgPath := "orlop/disk", byteOffset := 24 }, { name := "left", type := 3, offset := 2, embedded := false, tag := "", pkgPath := "orlop/disk", byteOffset := 48 }, { name := "down", type := 4, offset := 3, embedded := false, tag := "", pkgPath := "orlop/disk", byteOffset := 56 }]), (71, .struct #[{ name := "d", type := 30, offset := 0, embedded := false, tag := "", pkgPath := "orlop/wal", byteOffset := 0 }]), (72, .struct #[{ name := "d", type := 30, offset := 0, embedded := false, tag := "", pkgPath := "orlop/wal", byteOffset := 0 }])]
  fld := [((25, 0), (0, 22)), ((25, 1), (1, 23)), ((25, 2), (2, 3)), ((25, 3), (3, 24)), ((25, 4), (4, 3)), ((25, 5), (5, 24)), ((26, 0), (0, 22)), ((26, 1), (1, 23)), ((26, 2), (2, 3)), ((26, 3), (3, 24)), ((26, 4), (4, 3)), ((26, 5), (5, 24)), ((50, 0), (0, 3)), ((50, 1), (1, 23)), ((51, 0), (0, 3)), ((51, 1), (1, 23)), ((69, 0), (0, 23)), ((69, 1), (1, 28)), ((69, 2), (2, 3)), ((69, 3), (3, 4)), ((70, 0), (0, 23)), ((70, 1), (1, 28)), ((70, 2), (2, 3)), ((70, 3), (3, 4)), ((71, 0), (0, 30)), ((72, 0), (0, 30))]
  sz := [(3, 1), (4, 1), (5, 1), (22, 1), (23, 1), (24, 1), (25, 6), (26, 6), (28, 1), (30, 1), (32, 1), (33, 1), (42, 1), (50, 2), (51, 2), (69, 4), (70, 4), (71, 1), (72, 1)]
  ti := [(3, (1, 8, .int .i64 0)), (4, (1, 1, .bool false)), (5, (1, 1, .int .u8 0)), (22, (1, 24, .slice none 0 0)), (23, (1, 24, .slice none 0 0)), (24, (1, 24, .slice none 0 0)), (25, (6, 112, .agg #[.slice none 0 0, .slice none 0 0, .int .i64 0, .slice none 0 0, .int .i64 0, .slice none 0 0])), (26, (6, 112, .agg #[.slice none 0 0, .slice none 0 0, .int .i64 0, .slice none 0 0, .int .i64 0, .slice none 0 0])), (28, (1, 24, .slice none 0 0)), (30, (1, 8, .pointer none)), (32, (1, 8, .pointer none)), (33, (1, 8, .int .i64 0)), (42, (1, 24, .slice none 0 0)), (50, (2, 32, .agg #[.int .i64 0, .slice none 0 0])), (51, (2, 32, .agg #[.int .i64 0, .slice none 0 0])), (69, (4, 64, .agg #[.slice none 0 0, .slice none 0 0, .int .i64 0, .bool false])), (70, (4, 64, .agg #[.slice none 0 0, .slice none 0 0, .int .i64 0, .bool false])), (71, (1, 8, .agg #[.pointer none])), (72, (1, 8, .agg #[.pointer none]))]
  bld := [(25, [(0, 1), (1, 1), (2, 1), (3, 1), (4, 1), (5, 1)]), (26, [(0, 1), (1, 1), (2, 1), (3, 1), (4, 1), (5, 1)]), (50, [(0, 1), (1, 1)]), (51, [(0, 1), (1, 1)]), (69, [(0, 1), (1, 1), (2, 1), (3, 1)]), (70, [(0, 1), (1, 1), (2, 1), (3, 1)]), (71, [(0, 1)]), (72, [(0, 1)])]

theorem hU : U.OK Try.prog where
  und := by
    intro p hp
    simp only [U, List.mem_cons, List.not_mem_nil, or_false] at hp
    rcases hp with rfl | rfl | rfl | rfl | rfl | rfl | rfl | rfl | rfl | rfl | rfl | rfl | rfl | rfl | rfl | rfl | rfl | rfl | rfl
    · exact Try.underlying3
    · exact Try.underlying4
    · exact Try.underlying5
    · exact Try.underlying22
    · exact Try.underlying23
    · exact Try.underlying24
    · exact Try.underlying25
    · exact Try.underlying26
    · exact Try.underlying28
    · exact Try.underlying30
    · exact Try.underlying32
    · exact Try.underlying33
    · exact Try.underlying42
    · exact Try.underlying50
    · exact Try.underlying51
    · exact Try.underlying69
    · exact Try.underlying70
    · exact Try.underlying71
    · exact Try.underlying72
  fld := by
    intro p hp
    simp only [U, List.mem_cons, List.not_mem_nil, or_false] at hp
    rcases hp with rfl | rfl | rfl | rfl | rfl | rfl | rfl | rfl | rfl | rfl | rfl | rfl | rfl | rfl | rfl | rfl | rfl | rfl | rfl | rfl | rfl | rfl | rfl | rfl | rfl | rfl
    · exact ⟨_, _, Try.underlying25, rfl, rfl, rfl, Try.prog.types[22]!, by kernel_rfl, by decide +kernel⟩
    · exact ⟨_, _, Try.underlying25, rfl, rfl, rfl, Try.prog.types[23]!, by kernel_rfl, by decide +kernel⟩
    · exact ⟨_, _, Try.underlying25, rfl, rfl, rfl, Try.prog.types[3]!, by kernel_rfl, by decide +kernel⟩
    · exact ⟨_, _, Try.underlying25, rfl, rfl, rfl, Try.prog.types[24]!, by kernel_rfl, by decide +kernel⟩
    · exact ⟨_, _, Try.underlying25, rfl, rfl, rfl, Try.prog.types[3]!, by kernel_rfl, by decide +kernel⟩
    · exact ⟨_, _, Try.underlying25, rfl, rfl, rfl, Try.prog.types[24]!, by kernel_rfl, by decide +kernel⟩
    · exact ⟨_, _, Try.underlying26, rfl, rfl, rfl, Try.prog.types[22]!, by kernel_rfl, by decide +kernel⟩
    · exact ⟨_, _, Try.underlying26, rfl, rfl, rfl, Try.prog.types[23]!, by kernel_rfl, by decide +kernel⟩
    · exact ⟨_, _, Try.underlying26, rfl, rfl, rfl, Try.prog.types[3]!, by kernel_rfl, by decide +kernel⟩
    · exact ⟨_, _, Try.underlying26, rfl, rfl, rfl, Try.prog.types[24]!, by kernel_rfl, by decide +kernel⟩
    · exact ⟨_, _, Try.underlying26, rfl, rfl, rfl, Try.prog.types[3]!, by kernel_rfl, by decide +kernel⟩
    · exact ⟨_, _, Try.underlying26, rfl, rfl, rfl, Try.prog.types[24]!, by kernel_rfl, by decide +kernel⟩
    · exact ⟨_, _, Try.underlying50, rfl, rfl, rfl, Try.prog.types[3]!, by kernel_rfl, by decide +kernel⟩
    · exact ⟨_, _, Try.underlying50, rfl, rfl, rfl, Try.prog.types[23]!, by kernel_rfl, by decide +kernel⟩
    · exact ⟨_, _, Try.underlying51, rfl, rfl, rfl, Try.prog.types[3]!, by kernel_rfl, by decide +kernel⟩
    · exact ⟨_, _, Try.underlying51, rfl, rfl, rfl, Try.prog.types[23]!, by kernel_rfl, by decide +kernel⟩
    · exact ⟨_, _, Try.underlying69, rfl, rfl, rfl, Try.prog.types[23]!, by kernel_rfl, by decide +kernel⟩
    · exact ⟨_, _, Try.underlying69, rfl, rfl, rfl, Try.prog.types[28]!, by kernel_rfl, by decide +kernel⟩
    · exact ⟨_, _, Try.underlying69, rfl, rfl, rfl, Try.prog.types[3]!, by kernel_rfl, by decide +kernel⟩
    · exact ⟨_, _, Try.underlying69, rfl, rfl, rfl, Try.prog.types[4]!, by kernel_rfl, by decide +kernel⟩
    · exact ⟨_, _, Try.underlying70, rfl, rfl, rfl, Try.prog.types[23]!, by kernel_rfl, by decide +kernel⟩
    · exact ⟨_, _, Try.underlying70, rfl, rfl, rfl, Try.prog.types[28]!, by kernel_rfl, by decide +kernel⟩
    · exact ⟨_, _, Try.underlying70, rfl, rfl, rfl, Try.prog.types[3]!, by kernel_rfl, by decide +kernel⟩
    · exact ⟨_, _, Try.underlying70, rfl, rfl, rfl, Try.prog.types[4]!, by kernel_rfl, by decide +kernel⟩
    · exact ⟨_, _, Try.underlying71, rfl, rfl, rfl, Try.prog.types[30]!, by kernel_rfl, by decide +kernel⟩
    · exact ⟨_, _, Try.underlying72, rfl, rfl, rfl, Try.prog.types[30]!, by kernel_rfl, by decide +kernel⟩
  sz := by
    intro p hp
    simp only [U, List.mem_cons, List.not_mem_nil, or_false] at hp
    rcases hp with rfl | rfl | rfl | rfl | rfl | rfl | rfl | rfl | rfl | rfl | rfl | rfl | rfl | rfl | rfl | rfl | rfl | rfl | rfl
    · exact ⟨Try.prog.types[3]!, by kernel_rfl, by kernel_rfl⟩
    · exact ⟨Try.prog.types[4]!, by kernel_rfl, by kernel_rfl⟩
    · exact ⟨Try.prog.types[5]!, by kernel_rfl, by kernel_rfl⟩
    · exact ⟨Try.prog.types[22]!, by kernel_rfl, by kernel_rfl⟩
    · exact ⟨Try.prog.types[23]!, by kernel_rfl, by kernel_rfl⟩
    · exact ⟨Try.prog.types[24]!, by kernel_rfl, by kernel_rfl⟩
    · exact ⟨Try.prog.types[25]!, by kernel_rfl, by kernel_rfl⟩
    · exact ⟨Try.prog.types[26]!, by kernel_rfl, by kernel_rfl⟩
    · exact ⟨Try.prog.types[28]!, by kernel_rfl, by kernel_rfl⟩
    · exact ⟨Try.prog.types[30]!, by kernel_rfl, by kernel_rfl⟩
    · exact ⟨Try.prog.types[32]!, by kernel_rfl, by kernel_rfl⟩
    · exact ⟨Try.prog.types[33]!, by kernel_rfl, by kernel_rfl⟩
    · exact ⟨Try.prog.types[42]!, by kernel_rfl, by kernel_rfl⟩
    · exact ⟨Try.prog.types[50]!, by kernel_rfl, by kernel_rfl⟩
    · exact ⟨Try.prog.types[51]!, by kernel_rfl, by kernel_rfl⟩
    · exact ⟨Try.prog.types[69]!, by kernel_rfl, by kernel_rfl⟩
    · exact ⟨Try.prog.types[70]!, by kernel_rfl, by kernel_rfl⟩
    · exact ⟨Try.prog.types[71]!, by kernel_rfl, by kernel_rfl⟩
    · exact ⟨Try.prog.types[72]!, by kernel_rfl, by kernel_rfl⟩
  ti := by
    intro p hp
    simp only [U, List.mem_cons, List.not_mem_nil, or_false] at hp
    rcases hp with rfl | rfl | rfl | rfl | rfl | rfl | rfl | rfl | rfl | rfl | rfl | rfl | rfl | rfl | rfl | rfl | rfl | rfl | rfl
    · exact ⟨Try.prog.types[3]!, by kernel_rfl, by kernel_rfl, by kernel_rfl, by kernel_rfl⟩
    · exact ⟨Try.prog.types[4]!, by kernel_rfl, by kernel_rfl, by kernel_rfl, by kernel_rfl⟩
    · exact ⟨Try.prog.types[5]!, by kernel_rfl, by kernel_rfl, by kernel_rfl, by kernel_rfl⟩
    · exact ⟨Try.prog.types[22]!, by kernel_rfl, by kernel_rfl, by kernel_rfl, by kernel_rfl⟩
    · exact ⟨Try.prog.types[23]!, by kernel_rfl, by kernel_rfl, by kernel_rfl, by kernel_rfl⟩
    · exact ⟨Try.prog.types[24]!, by kernel_rfl, by kernel_rfl, by kernel_rfl, by kernel_rfl⟩
    · exact ⟨Try.prog.types[25]!, by kernel_rfl, by kernel_rfl, by kernel_rfl, by kernel_rfl⟩
    · exact ⟨Try.prog.types[26]!, by kernel_rfl, by kernel_rfl, by kernel_rfl, by kernel_rfl⟩
    · exact ⟨Try.prog.types[28]!, by kernel_rfl, by kernel_rfl, by kernel_rfl, by kernel_rfl⟩
    · exact ⟨Try.prog.types[30]!, by kernel_rfl, by kernel_rfl, by kernel_rfl, by kernel_rfl⟩
    · exact ⟨Try.prog.types[32]!, by kernel_rfl, by kernel_rfl, by kernel_rfl, by kernel_rfl⟩
    · exact ⟨Try.prog.types[33]!, by kernel_rfl, by kernel_rfl, by kernel_rfl, by kernel_rfl⟩
    · exact ⟨Try.prog.types[42]!, by kernel_rfl, by kernel_rfl, by kernel_rfl, by kernel_rfl⟩
    · exact ⟨Try.prog.types[50]!, by kernel_rfl, by kernel_rfl, by kernel_rfl, by kernel_rfl⟩
    · exact ⟨Try.prog.types[51]!, by kernel_rfl, by kernel_rfl, by kernel_rfl, by kernel_rfl⟩
    · exact ⟨Try.prog.types[69]!, by kernel_rfl, by kernel_rfl, by kernel_rfl, by kernel_rfl⟩
    · exact ⟨Try.prog.types[70]!, by kernel_rfl, by kernel_rfl, by kernel_rfl, by kernel_rfl⟩
    · exact ⟨Try.prog.types[71]!, by kernel_rfl, by kernel_rfl, by kernel_rfl, by kernel_rfl⟩
    · exact ⟨Try.prog.types[72]!, by kernel_rfl, by kernel_rfl, by kernel_rfl, by kernel_rfl⟩
  bld := by
    intro p hp
    simp only [U, List.mem_cons, List.not_mem_nil, or_false] at hp
    rcases hp with rfl | rfl | rfl | rfl | rfl | rfl | rfl | rfl
    · exact ⟨_, Try.underlying25, by kernel_rfl⟩
    · exact ⟨_, Try.underlying26, by kernel_rfl⟩
    · exact ⟨_, Try.underlying50, by kernel_rfl⟩
    · exact ⟨_, Try.underlying51, by kernel_rfl⟩
    · exact ⟨_, Try.underlying69, by kernel_rfl⟩
    · exact ⟨_, Try.underlying70, by kernel_rfl⟩
    · exact ⟨_, Try.underlying71, by kernel_rfl⟩
    · exact ⟨_, Try.underlying72, by kernel_rfl⟩
  mixed := by kernel_rfl

theorem wl_WalAtomic_spec (As : Option Addr) (cs : Nat) (l : List Tr) (l_l : Nat) (hTx : TxOK l) (hlc : l.length ≤ cs) (hlb : l.length ≤ 140737488351232) (hl_l : l.length = l_l) :
    CallsS Try.prog 4 [.slice As l_l cs] [vw As (txV l), vws (txB l), vws (txY l), vws (txK l), vws (txQ l)] (fun r D => r = .bool true ∧ D = []) := by
  subst hl_l
  refine CallsS.enter hU Try.f4 _ [.tmp 2] 163 Try.func4 rfl (by decide) rfl rfl (by kernel_rfl) fun w0 W => ?_
  refine RunC.know (p := 0 < l.length * 6 → Option.isSome As = true) (fun _ _ w hs => vw_some hs 0 rfl (by exact txV_len _)) (fun hA1 => ?_)
  refine RunC.sr ?_
  refine RunR.sl hU [] 1 1 [0, 2] [(0, .slice As l.length cs), (2, .bool false)] 1 ?_
  refine RunR.nn ?_
  refine RunC.seq ?_
  refine RunC.sr ?_
  refine RunR.st (some 17) (.call { callee := .value (.func 11), args := #[], argTypes := #[] }) (Step.cn 11 [] [] [vw As (txV l), vws (txB l), vws (txY l), vws (txK l), vws (txQ l)] (wl_awake_spec) [] ?_)
  rintro _ _ ⟨rfl, rfl⟩
  refine RunR.sl hU [] 1 2 [0, 2, 18] [(0, .slice As l.length cs), (2, .bool false), (18, .bool false)] 1 ?_
  refine RunR.nn ?_
  refine RunC.cond (b := false) (by kernel_rfl) (fun h => by cases h) (fun _ => ?_)
  refine RunC.ks ?_
  refine RunC.seq ?_
  refine RunC.sr ?_
  refine RunR.sl hU [] 1 1 [0, 2, 19] [(0, .slice As l.length cs), (2, .bool false), (19, .slice As l.length cs)] 1 ?_
  refine RunR.st (some 20) (.call { callee := .value (.func 19), args := #[.tmp 19], argTypes := #[42] }) (Step.cl 19 [.slice As l.length cs] [] [vw As (txV l), vws (txB l), vws (txY l), vws (txK l), vws (txQ l)] [vw As (txV l), vws (txB l), vws (txY l), vws (txK l), vws (txQ l)] (wl_small_spec As cs l l.length (by assumption) (by assumption) (by assumption) (by rfl)) [] ((((((Lend.nil _).same 4 (vws (txQ l)) (by kernel_rfl) rfl).same 3 (vws (txK l)) (by kernel_rfl) rfl).same 2 (vws (txY l)) (by kernel_rfl) rfl).same 1 (vws (txB l)) (by kernel_rfl) rfl).tells 0 (vw As (txV l)) As (txV l) (by kernel_rfl) (tells_vw _ _)) ?_)
  rintro _ _ ⟨ok2, rfl, rfl, hp3⟩
  refine RunR.sl hU [] 1 3 [0, 2, 21] [(0, .slice As l.length cs), (2, .bool false), (21, .bool (!ok2))] 1 ?_
  refine RunR.nn ?_
  refine RunC.cond (b := !ok2) (by kernel_rfl) (fun h4 => ?_) (fun h4 => ?_)
  · skip
    refine RunC.sr ?_
    refine RunR.sl hU [] 1 1 [0, 2] [(0, .slice As l.length cs), (2, .bool true)] 1 ?_
    refine RunR.nn ?_
    refine RunC.ret ?_
    refine kseq_r ?_
    refine kret_r [.bool true] [] [] ⟨rfl, trivial⟩ (by kernel_rfl) rfl ⟨rfl, rfl⟩
  · skip
    refine RunC.ksr ?_
    refine RunR.st (some 22) (.call { callee := .value (.func 13), args := #[.const (.int .i64 50)], argTypes := #[3] }) (Step.cn 13 [.int .i64 50] [] [vw As (txV l), vws (txB l), vws (txY l), vws (txK l), vws (txQ l)] (d_New_spec 50 (by (refine ⟨?_, ?_⟩ <;> omega))) [] ?_)
    rintro _ _ ⟨d25, A96, n97, c98, zs9, rfl, rfl, hp10, hp11, hp12, hp13, hp14, hp15, hp16, hp17⟩
    have hq18a := n50 hp17
    refine RunR.sl hU [] 1 2 [0, 2, 3] [(0, .slice As l.length cs), (2, .bool false), (3, pt d25)] 1 ?_
    refine RunR.nx ?_
    refine RunR.sl hU [] 1 1 [0, 2, 3, 24] [(0, .slice As l.length cs), (2, .bool false), (3, pt d25), (24, pt d25)] 1 ?_
    refine RunR.st (some 25) (.call { callee := .value (.func 14), args := #[.tmp 24], argTypes := #[30] }) (Step.cn 14 [pt d25] [blk d25 70 [.slice A96 n97 c98, .slice none 0 0, .int .i64 0, .bool false], row 5 1 (.slice A96 n97 c98) n97 (nums .u8 zs9), row 51 2 (.slice none 0 0) 0 (chV ([] : List Ch)), chd .u8 ([] : List Ch)] [vw As (txV l), vws (txB l), vws (txY l), vws (txK l), vws (txQ l)] (wl_Open_spec d25 A96 n97 c98 zs9 none 0 0 ([] : List Ch) 0 false hp10 (by assumption) (by assumption) (fun h => hp13 (by exact h)) (by assumption) (by assumption) (by rfl) (by omega) (by exact ChOK.nil _) (by exact WOK.nil _) (fun h => absurd h (by decide)) (by omega)) [0, 0, 0, 0] ?_)
    rintro _ _ (⟨rfl, rfl, hp19⟩ | ⟨e20, ss221, Wb22, m223, wc224, ws225, lf326, dn327, rfl, rfl, hp28, hp29, hp30, hp31, hp32, hp33, hp34, hp35, hp36, hp37, hp38⟩ | ⟨w239, ss240, Wb41, m242, wc243, ws244, lf345, dn346, rfl, rfl, hp47, hp48, hp49, hp50, hp51, hp52, hp53, hp54, hp55, hp56⟩)
    · skip
      first | (have hq57f := open_calm hp19 (by first | exact calm0 | assumption) (by assumption) (WOK.dat (by first | assumption | exact WOK.nil _)) (by omega); obtain ⟨hq57a, hq57b, hq57c, hq57d, hq57e⟩ := hq57f; have hq57g := congrArg List.length hq57c; simp only [dat_len, List.length_nil] at hq57g) | skip
      exfalso; omega
    · skip
      first | (have hq58f := open_calm hp28 (by first | exact calm0 | assumption) (by assumption) (WOK.dat (by first | assumption | exact WOK.nil _)) (by omega); obtain ⟨hq58a, hq58b, hq58c, hq58d, hq58e⟩ := hq58f; have hq58g := congrArg List.length hq58c; simp only [dat_len, List.length_nil] at hq58g) | skip
      exfalso; omega
    · skip
      first | (have hq59f := open_calm hp47 (by first | exact calm0 | assumption) (by assumption) (WOK.dat (by first | assumption | exact WOK.nil _)) (by omega); obtain ⟨hq59a, hq59b, hq59c, hq59d, hq59e⟩ := hq59f; have hq59g := congrArg List.length hq59c; simp only [dat_len, List.length_nil] at hq59g) | skip
      refine RunR.sl hU [] 5 7 [0, 2, 3, 4, 5] [(0, .slice As l.length cs), (2, .bool false), (3, pt d25), (4, pt w239), (5, .int .i64 0)] 5 ?_
      refine RunR.nn ?_
      refine RunC.seq ?_
      refine RunC.sr ?_
      refine RunR.sl hU [] 6 6 [0, 2, 3, 4, 33] [(0, .slice As l.length cs), (2, .bool false), (3, pt d25), (4, pt w239), (33, .bool false)] 6 ?_
      refine RunR.nn ?_
      refine RunC.cond (b := false) (by kernel_rfl) (fun h => by cases h) (fun _ => ?_)
      refine RunC.ksr ?_
      refine RunR.sl hU [] 1 1 [0, 2, 3, 4, 34] [(0, .slice As l.length cs), (2, .bool false), (3, pt d25), (4, pt w239), (34, pt w239)] 1 ?_
      refine RunR.st (some 35) (.call { callee := .value (.func 18), args := #[.tmp 34], argTypes := #[32] }) (Step.cn 18 [pt w239] [blk w239 72 [pt d25], blk d25 70 [.slice A96 n97 c98, .slice Wb41 m242 wc243, .int .i64 lf345, .bool dn346], row 5 1 (.slice A96 n97 c98) n97 (nums .u8 ss240), row 51 2 (.slice Wb41 m242 wc243) m242 (chV ws244), chd .u8 ws244] [vw As (txV l), vws (txB l), vws (txY l), vws (txK l), vws (txQ l)] (wl_seen_spec w239 d25 A96 n97 c98 ss240 Wb41 m242 wc243 ws244 lf345 dn346 hp48 (by assumption) (by assumption) (fun h => hp13 (by exact h)) (by assumption) (by assumption) (by assumption) (by omega) (by assumption) (by assumption) (fun h => hp54 (by exact h))) [0, 0, 0, 0, 0] ?_)
      rintro _ _ ⟨A960, n961, c962, zs63, rfl, rfl, hp64, hp65, hp66, hp67, hp68, hp69⟩
      refine RunR.sl hU [] 1 3 [0, 2, 3, 4, 6] [(0, .slice As l.length cs), (2, .bool false), (3, pt d25), (4, pt w239), (6, .slice A960 n961 c962)] 1 ?_
      refine RunR.nn ?_
      refine RunC.seq ?_
      refine RunC.sr ?_
      refine RunR.sl hU [] 1 1 [0, 2, 3, 4, 6, 7] [(0, .slice As l.length cs), (2, .bool false), (3, pt d25), (4, pt w239), (6, .slice A960 n961 c962), (7, .int .i64 0)] 1 ?_
      refine RunR.nn ?_
      refine RunC.block ?_
      refine RunC.env [0, 3, 4, 6, 7] [(0, .slice As l.length cs), (3, pt d25), (4, pt w239), (6, .slice A960 n961 c962), (7, .int .i64 0)] (by kernel_rfl) ?_
      refine RunC.only [3, 3, 3, 3, 2, 0, 0, 0, 0, 0, 0, 0] [blk d25 70 [.slice A96 n97 c98, .slice Wb41 m242 wc243, .int .i64 lf345, .bool dn346], row 5 1 (.slice A96 n97 c98) n97 (nums .u8 ss240), row 51 2 (.slice Wb41 m242 wc243) m242 (chV ws244), chd .u8 ws244, blk w239 72 [pt d25], row 23 1 (.slice A960 n961 c962) n961 (rowsV zs63), rws .u8 zs63, vw As (txV l), vws (txB l), vws (txY l), vws (txK l), vws (txQ l)] (by kernel_rfl) ?_
      refine RunC.loop (σ := Nat) (fun n_ t_ D_ => ∃ (i : Int) (sl : List Int) (Wl : Option Addr) (ml : Nat) (wl : Nat) (wsl : List Ch) (ll : Int) (dl : Bool) (wv : Nat) (Aw : Option Addr) (nw : Nat) (cw : Nat) (xw : List Ro), (0 ≤ i) ∧ (i ≤ 12) ∧ (In .u8 sl) ∧ (sl.length = n97) ∧ (Go.Proofs.Ytaaplakahkgclaa.SL.D.Calm ll dl) ∧ (wsl.length = ml) ∧ (ml = 0) ∧ (dat wsl = []) ∧ (ChOK .u8 wsl) ∧ (WOK n97 wsl) ∧ (0 < ml → Option.isSome Wl = true) ∧ (0 ≤ ll ∧ ll < 9223372036854775808) ∧ (seenP sl [] 0 = List.replicate 256 0) ∧ (rb xw = seenW n97 sl []) ∧ (RowsOK .u8 xw) ∧ (xw.length = nw) ∧ (nw ≤ cw) ∧ (nw = 8) ∧ (0 < nw → Option.isSome Aw = true) ∧ n_ = ((12 - i).toNat : Nat) ∧ t_ = [(0, .slice As l.length cs), (3, pt d25), (4, pt wv), (6, .slice Aw nw cw), (7, .int .i64 i)] ∧ D_ = [blk d25 70 [.slice A96 n97 c98, .slice Wl ml wl, .int .i64 ll, .bool dl], row 5 1 (.slice A96 n97 c98) n97 (nums .u8 sl), row 51 2 (.slice Wl ml wl) ml (chV wsl), chd .u8 wsl, blk wv 72 [pt d25], row 23 1 (.slice Aw nw cw) nw (rowsV xw), rws .u8 xw, vw As (txV l), vws (txB l), vws (txY l), vws (txK l), vws (txQ l)]) id _ ⟨0, ss240, Wb41, m242, wc243, ws244, lf345, dn346, w239, A960, n961, c962, zs63, (by omega), (by omega), hp48, (by assumption), (by assumption), (by assumption), (by omega), (by assumption), (by assumption), (by assumption), (fun h => hp54 (by exact h)), (by assumption), (by assumption), (by exact at_start (by assumption) (by assumption)), (by assumption), (by assumption), (by assumption), (by exact seen8 (by assumption) (by assumption) (by assumption)), (fun h => hp69 (by exact h)), rfl, rfl, rfl⟩ ?_
      rintro n_ _ _ ⟨i, sl, Wl, ml, wl, wsl, ll, dl, wv, Aw, nw, cw, xw, hi, hi2, hsl, hsll, hcl, hmll, hml0, hwn, hokl, hwkl, hWl, hlfl, hz0, hsw, hKw, hlw, hcw, hnw, hAw, rfl, rfl, rfl⟩
      refine RunC.seq ?_
      refine RunC.sr ?_
      refine RunR.sl hU [] 5 5 [0, 3, 4, 6, 7, 40] [(0, .slice As l.length cs), (3, pt d25), (4, pt wv), (6, .slice Aw nw cw), (7, .int .i64 i), (40, .bool (decide (i < ((l.length : Nat) : Int))))] 5 ?_
      refine RunR.ev [0, 3, 4, 6, 7, 40] [(0, .slice As l.length cs), (3, pt d25), (4, pt wv), (6, .slice Aw nw cw), (7, .int .i64 i), (40, .bool (decide (i < ((l.length : Nat) : Int))))] ?_
      by_cases h70 : i < ((l.length : Nat) : Int)
      · skip
        refine RunR.enveq [(0, .slice As l.length cs), (3, pt d25), (4, pt wv), (6, .slice Aw nw cw), (7, .int .i64 i), (40, .bool true)] (by rw [decide_eq_true h70]; try rfl) ?_
        refine RunR.sl hU [] 3 8 [0, 3, 4, 6, 7, 43] [(0, .slice As l.length cs), (3, pt d25), (4, pt wv), (6, .slice Aw nw cw), (7, .int .i64 i), (43, .bool (decide (i < 12)))] 3 ?_
        refine RunR.nn ?_
        refine RunC.condp (i < 12) (by kernel_rfl) (fun h71 => ?_) (fun h71 => ?_)
        · skip
          refine RunC.ks ?_
          refine RunC.seq ?_
          refine RunC.block ?_
          refine RunC.sr ?_
          refine RunR.sil hU [] 3 3 [0, 3, 4, 6, 7, 48] [(0, .slice As l.length cs), (3, pt d25), (4, pt wv), (6, .slice Aw nw cw), (7, .int .i64 i), (48, .pointer (elemAt As i 6))] ((True) ∧ (True) ∧ ((0 ≤ i ∧ i < ((l.length : Nat) : Int)) ∧ Option.isSome As = true) ∧ True) rfl (by kernel_rfl) ⟨trivial, trivial, ⟨by omega, hA1 (by omega)⟩, trivial⟩ ?_
          obtain ⟨bA72, bc73, bl74, yA75, yc76, yl77, ff78, kA79, kc80, kb81, gg82, qA83, qc84, qb85, hg86, hx87, hx88, hx89, hx90, hf91, hx92, hf93, hx94, hx95, hx96, hx97, hx98⟩ := tx_at (by assumption : TxOK l) (i := (i).toNat) (by omega)
          have hf99 := hf91; simp only [fits] at hf99
          have hf100 := hf93; simp only [fits] at hf100
          have hw101 := at_small (hp3 (not_f (by assumption))) (by omega) hg86; simp only at hw101
          refine RunR.st (some 49) (.load 26 (.tmp 48)) (Step.load_of hU 7 (vw As (txV l)) As i 6 (txV l) (.agg #[.slice bA72 bl74.length bc73, .slice yA75 yl77.length yc76, .int .i64 ff78, .slice kA79 kb81.length kc80, .int .i64 gg82, .slice qA83 qb85.length qc84]) (by kernel_rfl) (by kernel_rfl) (tells_vw _ _) (loadv_tx (by kernel_rfl) (by kernel_rfl) hg86) (by kernel_rfl) (by rw [txV_len]; omega) ?_)
          refine RunR.st (some 8) (.alloc 26) (Step.al hU 6 112 (.agg #[.slice none 0 0, .slice none 0 0, .int .i64 0, .slice none 0 0, .int .i64 0, .slice none 0 0]) (fun b102 => ?_))
          refine RunR.st none (.store 26 (.tmp 8) (.tmp 49)) (Step.store_blk hU 0 b102 0 26 [.slice none 0 0, .slice none 0 0, .int .i64 0, .slice none 0 0, .int .i64 0, .slice none 0 0] (.agg #[.slice bA72 bl74.length bc73, .slice yA75 yl77.length yc76, .int .i64 ff78, .slice kA79 kb81.length kc80, .int .i64 gg82, .slice qA83 qb85.length qc84]) (by kernel_rfl) (by kernel_rfl) (by kernel_rfl) 6 rfl [.slice bA72 bl74.length bc73, .slice yA75 yl77.length yc76, .int .i64 ff78, .slice kA79 kb81.length kc80, .int .i64 gg82, .slice qA83 qb85.length qc84] (by kernel_rfl) rfl (by kernel_rfl) (by decide) ?_)
          refine RunR.nx ?_
          refine RunR.st (some 50) (.load 26 (.tmp 8)) (Step.load_blk hU 0 b102 (0) 26 [.slice bA72 bl74.length bc73, .slice yA75 yl77.length yc76, .int .i64 ff78, .slice kA79 kb81.length kc80, .int .i64 gg82, .slice qA83 qb85.length qc84] (.agg #[.slice bA72 bl74.length bc73, .slice yA75 yl77.length yc76, .int .i64 ff78, .slice kA79 kb81.length kc80, .int .i64 gg82, .slice qA83 qb85.length qc84]) (by kernel_rfl) (by kernel_rfl) (by kernel_rfl) (by kernel_rfl) ?_)
          refine RunR.st (some 51) (.call { callee := .value (.func 12), args := #[.tmp 50], argTypes := #[26] }) (Step.cl 12 [.agg #[.slice bA72 bl74.length bc73, .slice yA75 yl77.length yc76, .int .i64 ff78, .slice kA79 kb81.length kc80, .int .i64 gg82, .slice qA83 qb85.length qc84]] [] [vw bA72 (nums .i64 bl74), vw yA75 (nums .u8 yl77)] [blk b102 26 [.slice bA72 bl74.length bc73, .slice yA75 yl77.length yc76, .int .i64 ff78, .slice kA79 kb81.length kc80, .int .i64 gg82, .slice qA83 qb85.length qc84], blk d25 70 [.slice A96 n97 c98, .slice Wl ml wl, .int .i64 ll, .bool dl], row 5 1 (.slice A96 n97 c98) n97 (nums .u8 sl), row 51 2 (.slice Wl ml wl) ml (chV wsl), chd .u8 wsl, blk wv 72 [pt d25], row 23 1 (.slice Aw nw cw) nw (rowsV xw), rws .u8 xw, vw As (txV l), vws (txB l), vws (txY l), vws (txK l), vws (txQ l)] (wl_changes_spec bA72 bc73 bl74 yA75 yc76 yl77 ff78 kA79 kb81.length kc80 gg82 qA83 qb85.length qc84 bl74.length yl77.length hx87 hx89 (by omega) (by rfl) (by rfl)) [] (((Lend.nil _).tells 10 (vws (txY l)) yA75 (nums .u8 yl77) (by kernel_rfl) (tells_txY hg86)).tells 9 (vws (txB l)) bA72 (nums .i64 bl74) (by kernel_rfl) (tells_txB hg86)) ?_)
          rintro _ _ ⟨La103, lm104, lc105, ls106, rfl, rfl, hp107, hp108, hp109, hp110, hp111, hp112, hp113⟩
          refine RunR.sl hU [] 1 3 [0, 3, 4, 6, 7, 8, 9] [(0, .slice As l.length cs), (3, pt d25), (4, pt wv), (6, .slice Aw nw cw), (7, .int .i64 i), (8, pt b102), (9, .slice La103 lm104 lc105)] 1 ?_
          refine RunR.nx ?_
          refine RunR.sl hU [] 2 2 [0, 3, 4, 6, 7, 8, 9, 52, 53] [(0, .slice As l.length cs), (3, pt d25), (4, pt wv), (6, .slice Aw nw cw), (7, .int .i64 i), (8, pt b102), (9, .slice La103 lm104 lc105), (52, pt d25), (53, .pointer (some ⟨b102, 2, none⟩))] 2 ?_
          refine RunR.st (some 54) (.load 3 (.tmp 53)) (Step.load_blk hU 2 b102 (2) 26 [.slice bA72 bl74.length bc73, .slice yA75 yl77.length yc76, .int .i64 ff78, .slice kA79 kb81.length kc80, .int .i64 gg82, .slice qA83 qb85.length qc84] (.int .i64 ff78) (by kernel_rfl) (by kernel_rfl) (by kernel_rfl) (by kernel_rfl) ?_)
          refine RunR.st (some 55) (.call { callee := .value (.func 20), args := #[.tmp 52, .tmp 54], argTypes := #[30, 3] }) (Step.cn 20 [pt d25, .int .i64 ff78] [blk d25 70 [.slice A96 n97 c98, .slice Wl ml wl, .int .i64 ll, .bool dl]] [row 51 2 (.slice La103 lm104 lc105) lm104 (chV ls106), chd .u8 ls106, blk b102 26 [.slice bA72 bl74.length bc73, .slice yA75 yl77.length yc76, .int .i64 ff78, .slice kA79 kb81.length kc80, .int .i64 gg82, .slice qA83 qb85.length qc84], row 5 1 (.slice A96 n97 c98) n97 (nums .u8 sl), row 51 2 (.slice Wl ml wl) ml (chV wsl), chd .u8 wsl, blk wv 72 [pt d25], row 23 1 (.slice Aw nw cw) nw (rowsV xw), rws .u8 xw, vw As (txV l), vws (txB l), vws (txY l), vws (txK l), vws (txQ l)] (d_Arm_spec d25 A96 n97 c98 Wl ml wl ll dl ff78 (by assumption)) [3] ?_)
          rintro _ _ ⟨lf2114, rfl, rfl, hp115, hp116⟩
          refine RunR.nx ?_
          refine RunR.sl hU [] 2 2 [0, 3, 4, 6, 7, 8, 9, 56, 57] [(0, .slice As l.length cs), (3, pt d25), (4, pt wv), (6, .slice Aw nw cw), (7, .int .i64 i), (8, pt b102), (9, .slice La103 lm104 lc105), (56, pt wv), (57, .slice La103 lm104 lc105)] 2 ?_
          refine RunR.st (some 58) (.call { callee := .value (.func 16), args := #[.tmp 56, .tmp 57], argTypes := #[32, 28] }) (Step.cl 16 [pt wv, .slice La103 lm104 lc105] [blk wv 72 [pt d25], blk d25 70 [.slice A96 n97 c98, .slice Wl ml wl, .int .i64 lf2114, .bool dl], row 5 1 (.slice A96 n97 c98) n97 (nums .u8 sl), row 51 2 (.slice Wl ml wl) ml (chV wsl), chd .u8 wsl] [vw La103 (chV ls106), vws (chL ls106)] [row 51 2 (.slice La103 lm104 lc105) lm104 (chV ls106), chd .u8 ls106, blk b102 26 [.slice bA72 bl74.length bc73, .slice yA75 yl77.length yc76, .int .i64 ff78, .slice kA79 kb81.length kc80, .int .i64 gg82, .slice qA83 qb85.length qc84], row 23 1 (.slice Aw nw cw) nw (rowsV xw), rws .u8 xw, vw As (txV l), vws (txB l), vws (txY l), vws (txK l), vws (txQ l)] (wl_Commit_spec wv d25 A96 n97 c98 sl Wl ml wl wsl lf2114 dl La103 lm104 lc105 ls106 hsl (by assumption) (by assumption) (fun h => hp13 (by exact h)) (by assumption) (by assumption) (by assumption) (by omega) (by assumption) (by assumption) (fun h => hWl (by exact h)) (by assumption) (by assumption) (by omega) (by assumption) (by assumption)) [7, 0, 3, 3, 3] (((Lend.nil _).ofChd 1 (by kernel_rfl)).tells 0 (row 51 2 (.slice La103 lm104 lc105) lm104 (chV ls106)) La103 (chV ls106) (by kernel_rfl) (tells_row _ _ _ _ _ _)) ?_)
          rintro _ _ ⟨e117, ss2118, Wb119, m2120, wc2121, ws2122, lf3123, dn3124, rfl, rfl, hp125, hp126, hp127, hp128, hp129, hp130, hp131, hp132, hp133⟩
          refine RunR.sl hU [] 1 4 [0, 3, 4, 6, 7, 8, 9, 10] [(0, .slice As l.length cs), (3, pt d25), (4, pt wv), (6, .slice Aw nw cw), (7, .int .i64 i), (8, pt b102), (9, .slice La103 lm104 lc105), (10, .int .i64 e117)] 1 ?_
          refine RunR.nn ?_
          refine RunC.seq ?_
          refine RunC.sr ?_
          refine RunR.sl hU [] 1 1 [0, 3, 4, 6, 7, 8, 9, 10, 59] [(0, .slice As l.length cs), (3, pt d25), (4, pt wv), (6, .slice Aw nw cw), (7, .int .i64 i), (8, pt b102), (9, .slice La103 lm104 lc105), (10, .int .i64 e117), (59, .slice La103 lm104 lc105)] 1 ?_
          refine RunR.st (some 60) (.call { callee := .value (.func 15), args := #[.const (.int .i64 8), .tmp 59], argTypes := #[3, 28] }) (Step.cl 15 [.int .i64 8, .slice La103 lm104 lc105] [] [vw La103 (chV ls106)] [blk wv 72 [pt d25], blk d25 70 [.slice A96 n97 c98, .slice Wb119 m2120 wc2121, .int .i64 lf3123, .bool dn3124], row 5 1 (.slice A96 n97 c98) n97 (nums .u8 ss2118), row 51 2 (.slice Wb119 m2120 wc2121) m2120 (chV ws2122), chd .u8 ws2122, row 51 2 (.slice La103 lm104 lc105) lm104 (chV ls106), chd .u8 ls106, blk b102 26 [.slice bA72 bl74.length bc73, .slice yA75 yl77.length yc76, .int .i64 ff78, .slice kA79 kb81.length kc80, .int .i64 gg82, .slice qA83 qb85.length qc84], row 23 1 (.slice Aw nw cw) nw (rowsV xw), rws .u8 xw, vw As (txV l), vws (txB l), vws (txY l), vws (txK l), vws (txQ l)] (wr_May_spec 8 La103 lm104 lc105 ls106 (by (refine ⟨?_, ?_⟩ <;> omega)) (by assumption) (by omega) (by assumption)) [] ((Lend.nil _).tells 5 (row 51 2 (.slice La103 lm104 lc105) lm104 (chV ls106)) La103 (chV ls106) (by kernel_rfl) (tells_row _ _ _ _ _ _)) ?_)
          rintro _ _ ⟨rfl, rfl⟩
          refine RunR.sl hU [] 1 3 [0, 3, 4, 6, 7, 8, 9, 10, 61] [(0, .slice As l.length cs), (3, pt d25), (4, pt wv), (6, .slice Aw nw cw), (7, .int .i64 i), (8, pt b102), (9, .slice La103 lm104 lc105), (10, .int .i64 e117), (61, .bool (!decide (lm104 ≤ 40 ∧ MOK 8 ls106)))] 1 ?_
          refine RunR.nn ?_
          refine RunC.condn (lm104 ≤ 40 ∧ MOK 8 ls106) (by kernel_rfl) (fun h134 => ?_) (fun h134 => ?_)
          · skip
            refine RunC.seq ?_
            refine RunC.sr ?_
            refine RunR.sl hU [] 3 3 [0, 3, 4, 6, 7, 64] [(0, .slice As l.length cs), (3, pt d25), (4, pt wv), (6, .slice Aw nw cw), (7, .int .i64 i), (64, .bool (!decide (e117 = 1)))] 3 ?_
            refine RunR.ev [0, 3, 4, 6, 7, 64] [(0, .slice As l.length cs), (3, pt d25), (4, pt wv), (6, .slice Aw nw cw), (7, .int .i64 i), (64, .bool (!decide (e117 = 1)))] ?_
            have hk135 : (e117 = 1) := by exact (at_no hp125 (by assumption) (by assumption) (by assumption) (by assumption)).1
            refine RunR.enveq [(0, .slice As l.length cs), (3, pt d25), (4, pt wv), (6, .slice Aw nw cw), (7, .int .i64 i), (64, .bool false)] (by rw [decide_eq_true hk135]; try rfl) ?_
            refine RunR.sl hU [] 1 4 [0, 3, 4, 6, 7, 64, 65] [(0, .slice As l.length cs), (3, pt d25), (4, pt wv), (6, .slice Aw nw cw), (7, .int .i64 i), (64, .bool false), (65, pt wv)] 1 ?_
            refine RunR.st (some 66) (.call { callee := .value (.func 18), args := #[.tmp 65], argTypes := #[32] }) (Step.cn 18 [pt wv] [blk wv 72 [pt d25], blk d25 70 [.slice A96 n97 c98, .slice Wb119 m2120 wc2121, .int .i64 lf3123, .bool dn3124], row 5 1 (.slice A96 n97 c98) n97 (nums .u8 ss2118), row 51 2 (.slice Wb119 m2120 wc2121) m2120 (chV ws2122), chd .u8 ws2122] [row 51 2 (.slice La103 lm104 lc105) lm104 (chV ls106), chd .u8 ls106, blk b102 26 [.slice bA72 bl74.length bc73, .slice yA75 yl77.length yc76, .int .i64 ff78, .slice kA79 kb81.length kc80, .int .i64 gg82, .slice qA83 qb85.length qc84], row 23 1 (.slice Aw nw cw) nw (rowsV xw), rws .u8 xw, vw As (txV l), vws (txB l), vws (txY l), vws (txK l), vws (txQ l)] (wl_seen_spec wv d25 A96 n97 c98 ss2118 Wb119 m2120 wc2121 ws2122 lf3123 dn3124 hp126 (by assumption) (by assumption) (fun h => hp13 (by exact h)) (by assumption) (by assumption) (by assumption) (by omega) (by assumption) (by assumption) (fun h => hp132 (by exact h))) [0, 0, 0, 0, 0] ?_)
            rintro _ _ ⟨A9136, n9137, c9138, zs139, rfl, rfl, hp140, hp141, hp142, hp143, hp144, hp145⟩
            refine RunR.sl hU [] 1 6 [0, 3, 4, 6, 7, 64, 66, 67] [(0, .slice As l.length cs), (3, pt d25), (4, pt wv), (6, .slice Aw nw cw), (7, .int .i64 i), (64, .bool false), (66, .slice A9136 n9137 c9138), (67, .slice Aw nw cw)] 1 ?_
            refine RunR.st (some 68) (.call { callee := .value (.func 17), args := #[.tmp 66, .tmp 67], argTypes := #[39, 39] }) (Step.cl 17 [.slice A9136 n9137 c9138, .slice Aw nw cw] [] [vw A9136 (rowsV zs139), vws (rowsL .u8 zs139), vw Aw (rowsV xw), vws (rowsL .u8 xw)] [row 23 1 (.slice A9136 n9137 c9138) n9137 (rowsV zs139), rws .u8 zs139, blk wv 72 [pt d25], blk d25 70 [.slice A96 n97 c98, .slice Wb119 m2120 wc2121, .int .i64 lf3123, .bool dn3124], row 5 1 (.slice A96 n97 c98) n97 (nums .u8 ss2118), row 51 2 (.slice Wb119 m2120 wc2121) m2120 (chV ws2122), chd .u8 ws2122, row 51 2 (.slice La103 lm104 lc105) lm104 (chV ls106), chd .u8 ls106, blk b102 26 [.slice bA72 bl74.length bc73, .slice yA75 yl77.length yc76, .int .i64 ff78, .slice kA79 kb81.length kc80, .int .i64 gg82, .slice qA83 qb85.length qc84], row 23 1 (.slice Aw nw cw) nw (rowsV xw), rws .u8 xw, vw As (txV l), vws (txB l), vws (txY l), vws (txK l), vws (txQ l)] (wr_Same_spec A9136 n9137 c9138 zs139 Aw nw cw xw (by assumption) (by assumption) (by assumption) (by assumption) (by assumption) (by omega)) [] (((((Lend.nil _).ofRws 11 (by kernel_rfl)).tells 10 (row 23 1 (.slice Aw nw cw) nw (rowsV xw)) Aw (rowsV xw) (by kernel_rfl) (tells_row _ _ _ _ _ _)).ofRws 1 (by kernel_rfl)).tells 0 (row 23 1 (.slice A9136 n9137 c9138) n9137 (rowsV zs139)) A9136 (rowsV zs139) (by kernel_rfl) (tells_row _ _ _ _ _ _)) ?_)
            rintro _ _ ⟨rfl, rfl⟩
            refine RunR.sl hU [] 2 9 [0, 3, 4, 6, 7, 70] [(0, .slice As l.length cs), (3, pt d25), (4, pt wv), (6, .slice Aw nw cw), (7, .int .i64 i), (70, .bool (!decide (rb zs139 = rb xw)))] 2 ?_
            refine RunR.ev [0, 3, 4, 6, 7, 70] [(0, .slice As l.length cs), (3, pt d25), (4, pt wv), (6, .slice Aw nw cw), (7, .int .i64 i), (70, .bool (!decide (rb zs139 = rb xw)))] ?_
            have hk146 : (rb zs139 = rb xw) := by exact at_seen (by assumption) hp125 (by assumption) (by assumption) (by assumption) (by assumption) hwn hsw
            refine RunR.enveq [(0, .slice As l.length cs), (3, pt d25), (4, pt wv), (6, .slice Aw nw cw), (7, .int .i64 i), (70, .bool false)] (by rw [decide_eq_true hk146]; try rfl) ?_
            refine RunR.nn ?_
            refine RunC.cond (b := false) (by kernel_rfl) (fun h => by cases h) (fun _ => ?_)
            refine RunC.ks ?_
            refine RunC.region ?_
            refine RunR.sl hU [] 1 1 [0, 3, 4, 6, 7, 71] [(0, .slice As l.length cs), (3, pt d25), (4, pt wv), (6, .slice Aw nw cw), (7, .int .i64 i), (71, pt d25)] 1 ?_
            refine RunR.turn ([vw none (bls ([] : List Bool)), row 23 1 (.slice A9136 n9137 c9138) n9137 (rowsV zs139), rws .u8 zs139, blk wv 72 [pt d25], blk d25 70 [.slice A96 n97 c98, .slice Wb119 m2120 wc2121, .int .i64 lf3123, .bool dn3124], row 5 1 (.slice A96 n97 c98) n97 (nums .u8 ss2118), row 51 2 (.slice Wb119 m2120 wc2121) m2120 (chV ws2122), chd .u8 ws2122, row 51 2 (.slice La103 lm104 lc105) lm104 (chV ls106), chd .u8 ls106, blk b102 26 [.slice bA72 bl74.length bc73, .slice yA75 yl77.length yc76, .int .i64 ff78, .slice kA79 kb81.length kc80, .int .i64 gg82, .slice qA83 qb85.length qc84], row 23 1 (.slice Aw nw cw) nw (rowsV xw), rws .u8 xw, vw As (txV l), vws (txB l), vws (txY l), vws (txK l), vws (txQ l)]) (fun _ _ w hs => hs.nil_vw none) ?_
            refine RunR.st (some 72) (.call { callee := .value (.func 21), args := #[.tmp 71, .const (.slice none 0 0)], argTypes := #[30, 24] }) (Step.cl 21 [pt d25, .slice none 0 0] [blk d25 70 [.slice A96 n97 c98, .slice Wb119 m2120 wc2121, .int .i64 lf3123, .bool dn3124], row 5 1 (.slice A96 n97 c98) n97 (nums .u8 ss2118), row 51 2 (.slice Wb119 m2120 wc2121) m2120 (chV ws2122), chd .u8 ws2122] [vw none (bls ([] : List Bool))] [vw none (bls ([] : List Bool)), row 23 1 (.slice A9136 n9137 c9138) n9137 (rowsV zs139), rws .u8 zs139, blk wv 72 [pt d25], row 51 2 (.slice La103 lm104 lc105) lm104 (chV ls106), chd .u8 ls106, blk b102 26 [.slice bA72 bl74.length bc73, .slice yA75 yl77.length yc76, .int .i64 ff78, .slice kA79 kb81.length kc80, .int .i64 gg82, .slice qA83 qb85.length qc84], row 23 1 (.slice Aw nw cw) nw (rowsV xw), rws .u8 xw, vw As (txV l), vws (txB l), vws (txY l), vws (txK l), vws (txQ l)] (d_Crash_spec d25 A96 n97 c98 ss2118 Wb119 m2120 wc2121 ws2122 lf3123 dn3124 none 0 ([] : List Bool) 0 hp126 (by assumption) (by assumption) (fun h => hp13 (by exact h)) (by assumption) (by assumption) (by assumption) (by omega) (by assumption) (by assumption) (fun h => hp132 (by exact h)) (by (simp only [List.length_append, List.length_cons, List.length_nil, List.length_set, List.length_replicate, List.length_take, List.length_drop]; omega)) (by rfl)) [4, 4, 4, 4] ((Lend.nil _).tells 0 (vw none (bls ([] : List Bool))) none (bls ([] : List Bool)) (by kernel_rfl) (tells_vw _ _)) ?_)
            rintro _ _ ⟨ss2147, rfl, rfl, hp148, hp149, hp150⟩
            refine RunR.nx ?_
            refine RunR.sl hU [] 1 1 [0, 3, 4, 6, 7, 140] [(0, .slice As l.length cs), (3, pt d25), (4, pt wv), (6, .slice Aw nw cw), (7, .int .i64 i), (140, pt d25)] 1 ?_
            refine RunR.st (some 141) (.call { callee := .value (.func 14), args := #[.tmp 140], argTypes := #[30] }) (Step.cn 14 [pt d25] [blk d25 70 [.slice A96 n97 c98, .slice none 0 0, .int .i64 0, .bool false], row 5 1 (.slice A96 n97 c98) n97 (nums .u8 ss2147), row 51 2 (.slice none 0 0) 0 (chV ([] : List Ch)), chd .u8 ([] : List Ch)] [vw none (bls ([] : List Bool)), row 23 1 (.slice A9136 n9137 c9138) n9137 (rowsV zs139), rws .u8 zs139, blk wv 72 [pt d25], row 51 2 (.slice La103 lm104 lc105) lm104 (chV ls106), chd .u8 ls106, blk b102 26 [.slice bA72 bl74.length bc73, .slice yA75 yl77.length yc76, .int .i64 ff78, .slice kA79 kb81.length kc80, .int .i64 gg82, .slice qA83 qb85.length qc84], row 23 1 (.slice Aw nw cw) nw (rowsV xw), rws .u8 xw, vw As (txV l), vws (txB l), vws (txY l), vws (txK l), vws (txQ l)] (wl_Open_spec d25 A96 n97 c98 ss2147 none 0 0 ([] : List Ch) 0 false hp149 (by assumption) (by assumption) (fun h => hp13 (by exact h)) (by assumption) (by assumption) (by rfl) (by omega) (by exact ChOK.nil _) (by exact WOK.nil _) (fun h => absurd h (by decide)) (by omega)) [0, 0, 0, 0] ?_)
            rintro _ _ (⟨rfl, rfl, hp151⟩ | ⟨e152, ss2153, Wb154, m2155, wc2156, ws2157, lf3158, dn3159, rfl, rfl, hp160, hp161, hp162, hp163, hp164, hp165, hp166, hp167, hp168, hp169, hp170⟩ | ⟨w2171, ss2172, Wb173, m2174, wc2175, ws2176, lf3177, dn3178, rfl, rfl, hp179, hp180, hp181, hp182, hp183, hp184, hp185, hp186, hp187, hp188⟩)
            · skip
              first | (have hq189f := open_calm hp151 (by first | exact calm0 | assumption) (by assumption) (WOK.dat (by first | assumption | exact WOK.nil _)) (by omega); obtain ⟨hq189a, hq189b, hq189c, hq189d, hq189e⟩ := hq189f; have hq189g := congrArg List.length hq189c; simp only [dat_len, List.length_nil] at hq189g) | skip
              exfalso; omega
            · skip
              first | (have hq190f := open_calm hp160 (by first | exact calm0 | assumption) (by assumption) (WOK.dat (by first | assumption | exact WOK.nil _)) (by omega); obtain ⟨hq190a, hq190b, hq190c, hq190d, hq190e⟩ := hq190f; have hq190g := congrArg List.length hq190c; simp only [dat_len, List.length_nil] at hq190g) | skip
              exfalso; omega
            · skip
              first | (have hq191f := open_calm hp179 (by first | exact calm0 | assumption) (by assumption) (WOK.dat (by first | assumption | exact WOK.nil _)) (by omega); obtain ⟨hq191a, hq191b, hq191c, hq191d, hq191e⟩ := hq191f; have hq191g := congrArg List.length hq191c; simp only [dat_len, List.length_nil] at hq191g) | skip
              refine RunR.sl hU [] 5 7 [0, 3, 4, 6, 7, 15, 16] [(0, .slice As l.length cs), (3, pt d25), (4, pt wv), (6, .slice Aw nw cw), (7, .int .i64 i), (15, pt w2171), (16, .int .i64 0)] 5 ?_
              refine RunR.nn ?_
              refine RunC.seq ?_
              refine RunC.sr ?_
              refine RunR.sl hU [] 8 8 [0, 3, 4, 6, 7, 15, 150, 151] [(0, .slice As l.length cs), (3, pt d25), (4, pt wv), (6, .slice Aw nw cw), (7, .int .i64 i), (15, pt w2171), (150, .bool false), (151, pt w2171)] 8 ?_
              refine RunR.st (some 152) (.call { callee := .value (.func 18), args := #[.tmp 151], argTypes := #[32] }) (Step.cn 18 [pt w2171] [blk w2171 72 [pt d25], blk d25 70 [.slice A96 n97 c98, .slice Wb173 m2174 wc2175, .int .i64 lf3177, .bool dn3178], row 5 1 (.slice A96 n97 c98) n97 (nums .u8 ss2172), row 51 2 (.slice Wb173 m2174 wc2175) m2174 (chV ws2176), chd .u8 ws2176] [vw none (bls ([] : List Bool)), row 23 1 (.slice A9136 n9137 c9138) n9137 (rowsV zs139), rws .u8 zs139, blk wv 72 [pt d25], row 51 2 (.slice La103 lm104 lc105) lm104 (chV ls106), chd .u8 ls106, blk b102 26 [.slice bA72 bl74.length bc73, .slice yA75 yl77.length yc76, .int .i64 ff78, .slice kA79 kb81.length kc80, .int .i64 gg82, .slice qA83 qb85.length qc84], row 23 1 (.slice Aw nw cw) nw (rowsV xw), rws .u8 xw, vw As (txV l), vws (txB l), vws (txY l), vws (txK l), vws (txQ l)] (wl_seen_spec w2171 d25 A96 n97 c98 ss2172 Wb173 m2174 wc2175 ws2176 lf3177 dn3178 hp180 (by assumption) (by assumption) (fun h => hp13 (by exact h)) (by assumption) (by assumption) (by assumption) (by omega) (by assumption) (by assumption) (fun h => hp186 (by exact h))) [0, 0, 0, 0, 0] ?_)
              rintro _ _ ⟨A9192, n9193, c9194, zs195, rfl, rfl, hp196, hp197, hp198, hp199, hp200, hp201⟩
              refine RunR.sl hU [] 1 10 [0, 3, 4, 6, 7, 15, 150, 152, 153] [(0, .slice As l.length cs), (3, pt d25), (4, pt wv), (6, .slice Aw nw cw), (7, .int .i64 i), (15, pt w2171), (150, .bool false), (152, .slice A9192 n9193 c9194), (153, .slice Aw nw cw)] 1 ?_
              refine RunR.st (some 154) (.call { callee := .value (.func 17), args := #[.tmp 152, .tmp 153], argTypes := #[39, 39] }) (Step.cl 17 [.slice A9192 n9193 c9194, .slice Aw nw cw] [] [vw A9192 (rowsV zs195), vws (rowsL .u8 zs195), vw Aw (rowsV xw), vws (rowsL .u8 xw)] [row 23 1 (.slice A9192 n9193 c9194) n9193 (rowsV zs195), rws .u8 zs195, blk w2171 72 [pt d25], blk d25 70 [.slice A96 n97 c98, .slice Wb173 m2174 wc2175, .int .i64 lf3177, .bool dn3178], row 5 1 (.slice A96 n97 c98) n97 (nums .u8 ss2172), row 51 2 (.slice Wb173 m2174 wc2175) m2174 (chV ws2176), chd .u8 ws2176, vw none (bls ([] : List Bool)), row 23 1 (.slice A9136 n9137 c9138) n9137 (rowsV zs139), rws .u8 zs139, blk wv 72 [pt d25], row 51 2 (.slice La103 lm104 lc105) lm104 (chV ls106), chd .u8 ls106, blk b102 26 [.slice bA72 bl74.length bc73, .slice yA75 yl77.length yc76, .int .i64 ff78, .slice kA79 kb81.length kc80, .int .i64 gg82, .slice qA83 qb85.length qc84], row 23 1 (.slice Aw nw cw) nw (rowsV xw), rws .u8 xw, vw As (txV l), vws (txB l), vws (txY l), vws (txK l), vws (txQ l)] (wr_Same_spec A9192 n9193 c9194 zs195 Aw nw cw xw (by assumption) (by assumption) (by assumption) (by assumption) (by assumption) (by omega)) [] (((((Lend.nil _).ofRws 15 (by kernel_rfl)).tells 14 (row 23 1 (.slice Aw nw cw) nw (rowsV xw)) Aw (rowsV xw) (by kernel_rfl) (tells_row _ _ _ _ _ _)).ofRws 1 (by kernel_rfl)).tells 0 (row 23 1 (.slice A9192 n9193 c9194) n9193 (rowsV zs195)) A9192 (rowsV zs195) (by kernel_rfl) (tells_row _ _ _ _ _ _)) ?_)
              rintro _ _ ⟨rfl, rfl⟩
              refine RunR.sl hU [] 2 13 [0, 3, 4, 6, 7, 15, 156] [(0, .slice As l.length cs), (3, pt d25), (4, pt wv), (6, .slice Aw nw cw), (7, .int .i64 i), (15, pt w2171), (156, .bool (!decide (rb zs195 = rb xw)))] 2 ?_
              refine RunR.ev [0, 3, 4, 6, 7, 15, 156] [(0, .slice As l.length cs), (3, pt d25), (4, pt wv), (6, .slice Aw nw cw), (7, .int .i64 i), (15, pt w2171), (156, .bool (!decide (rb zs195 = rb xw)))] ?_
              have hk202 : (rb zs195 = rb xw) := by exact at_reopen (by assumption) (by assumption) (by assumption) (by assumption) hp125 (by assumption) (by assumption) (by assumption) (by assumption) hz0 hsw
              refine RunR.enveq [(0, .slice As l.length cs), (3, pt d25), (4, pt wv), (6, .slice Aw nw cw), (7, .int .i64 i), (15, pt w2171), (156, .bool false)] (by rw [decide_eq_true hk202]; try rfl) ?_
              refine RunR.nn ?_
              refine RunC.cond (b := false) (by kernel_rfl) (fun h => by cases h) (fun _ => ?_)
              refine RunC.ks ?_
              refine RunC.region ?_
              refine RunR.sl hU [] 2 2 [0, 3, 4, 6, 7] [(0, .slice As l.length cs), (3, pt d25), (4, pt w2171), (6, .slice Aw nw cw), (7, .int .i64 i)] 2 ?_
              refine RunR.dn ?_
              refine kblock_n ?_
              refine kseq_n ?_
              refine RunC.region ?_
              refine RunR.sil hU [1] 3 3 [0, 3, 4, 6, 7] [(0, .slice As l.length cs), (3, pt d25), (4, pt w2171), (6, .slice Aw nw cw), (7, .int .i64 (i + 1))] ((True) ∧ (-9223372036854775808 ≤ (i + 1) ∧ (i + 1) < 9223372036854775808) ∧ (True) ∧ True) rfl (by kernel_rfl) ⟨trivial, (by omega), trivial, trivial⟩ ?_
              refine RunR.dn ?_
              refine kloop_n _ [0, 3, 4, 6, 7] [3, 3, 3, 3, 2, 9, 9, 9, 9, 9, 9, 9] [(0, .slice As l.length cs), (3, pt d25), (4, pt w2171), (6, .slice Aw nw cw), (7, .int .i64 (i + 1))] [blk d25 70 [.slice A96 n97 c98, .slice Wb173 m2174 wc2175, .int .i64 lf3177, .bool dn3178], row 5 1 (.slice A96 n97 c98) n97 (nums .u8 ss2172), row 51 2 (.slice Wb173 m2174 wc2175) m2174 (chV ws2176), chd .u8 ws2176, blk w2171 72 [pt d25], row 23 1 (.slice Aw nw cw) nw (rowsV xw), rws .u8 xw, vw As (txV l), vws (txB l), vws (txY l), vws (txK l), vws (txQ l)] (by kernel_rfl) (by kernel_rfl) ?_ ⟨(i + 1), ss2172, Wb173, m2174, wc2175, ws2176, lf3177, dn3178, w2171, Aw, nw, cw, xw, (by omega), (by assumption), hp180, (by assumption), (by assumption), (by assumption), (by omega), (by assumption), (by assumption), (by assumption), (fun h => hp186 (by exact h)), (by assumption), (by assumption), (by exact at_keep (by assumption) (by assumption) (by assumption)), (by assumption), (by assumption), (by assumption), (by assumption), (fun h => hAw (by exact h)), rfl, (by rfl), (by rfl)⟩
              show ((12 - (i + 1)).toNat : Nat) < ((12 - i).toNat : Nat)
              omega
          · skip
            refine RunC.sr ?_
            refine RunR.sl hU [] 3 3 [0, 3, 4, 6, 7, 8, 9, 10, 75] [(0, .slice As l.length cs), (3, pt d25), (4, pt wv), (6, .slice Aw nw cw), (7, .int .i64 i), (8, pt b102), (9, .slice La103 lm104 lc105), (10, .int .i64 e117), (75, .bool (!decide (e117 = 0)))] 3 ?_
            refine RunR.ev [0, 3, 4, 6, 7, 8, 9, 10, 75] [(0, .slice As l.length cs), (3, pt d25), (4, pt wv), (6, .slice Aw nw cw), (7, .int .i64 i), (8, pt b102), (9, .slice La103 lm104 lc105), (10, .int .i64 e117), (75, .bool (!decide (e117 = 0)))] ?_
            by_cases h203 : e117 = 0
            · skip
              refine RunR.enveq [(0, .slice As l.length cs), (3, pt d25), (4, pt wv), (6, .slice Aw nw cw), (7, .int .i64 i), (8, pt b102), (9, .slice La103 lm104 lc105), (10, .int .i64 e117), (75, .bool false)] (by rw [decide_eq_true h203]; try rfl) ?_
              refine RunR.sl hU [] 8 11 [0, 3, 4, 6, 7, 8, 9, 10, 83] [(0, .slice As l.length cs), (3, pt d25), (4, pt wv), (6, .slice Aw nw cw), (7, .int .i64 i), (8, pt b102), (9, .slice La103 lm104 lc105), (10, .int .i64 e117), (83, .bool false)] 1 ?_
              refine RunR.nn ?_
              refine RunC.cond (b := false) (by kernel_rfl) (fun h => by cases h) (fun _ => ?_)
              refine RunC.sr ?_
              refine RunR.sl hU [] 2 2 [0, 3, 4, 6, 7, 8, 10, 84, 85] [(0, .slice As l.length cs), (3, pt d25), (4, pt wv), (6, .slice Aw nw cw), (7, .int .i64 i), (8, pt b102), (10, .int .i64 e117), (84, .slice Aw nw cw), (85, .slice La103 lm104 lc105)] 2 ?_
              refine RunR.st (some 86) (.call { callee := .value (.func 23), args := #[.tmp 84, .tmp 85], argTypes := #[39, 28] }) (Step.cl 23 [.slice Aw nw cw, .slice La103 lm104 lc105] [rws .u8 xw] [vw Aw (rowsV xw), vw La103 (chV ls106), vws (chL ls106)] [blk wv 72 [pt d25], blk d25 70 [.slice A96 n97 c98, .slice Wb119 m2120 wc2121, .int .i64 lf3123, .bool dn3124], row 5 1 (.slice A96 n97 c98) n97 (nums .u8 ss2118), row 51 2 (.slice Wb119 m2120 wc2121) m2120 (chV ws2122), chd .u8 ws2122, row 51 2 (.slice La103 lm104 lc105) lm104 (chV ls106), chd .u8 ls106, blk b102 26 [.slice bA72 bl74.length bc73, .slice yA75 yl77.length yc76, .int .i64 ff78, .slice kA79 kb81.length kc80, .int .i64 gg82, .slice qA83 qb85.length qc84], row 23 1 (.slice Aw nw cw) nw (rowsV xw), vw As (txV l), vws (txB l), vws (txY l), vws (txK l), vws (txQ l)] (wr_Done2_spec Aw nw cw xw La103 lm104 lc105 ls106 (by assumption) (by assumption) (by assumption) (by omega) (fun h => hAw (by exact h)) (by assumption) (by omega) (by assumption) (by exact at_mok (by assumption) hnw)) [9] ((((Lend.nil _).ofChd 6 (by kernel_rfl)).tells 5 (row 51 2 (.slice La103 lm104 lc105) lm104 (chV ls106)) La103 (chV ls106) (by kernel_rfl) (tells_row _ _ _ _ _ _)).tells 8 (row 23 1 (.slice Aw nw cw) nw (rowsV xw)) Aw (rowsV xw) (by kernel_rfl) (tells_row _ _ _ _ _ _)) ?_)
              rintro _ _ ⟨A9204, n9205, c9206, zs207, rfl, rfl, hp208, hp209, hp210, hp211, hp212, hp213, hp214⟩
              have hq215a := (at_view hp125 hwn hcl hp115 hsll (by assumption) hz0 (by assumption) (by assumption))
              refine RunR.sl hU [] 1 4 [0, 3, 4, 6, 7, 8, 10, 11] [(0, .slice As l.length cs), (3, pt d25), (4, pt wv), (6, .slice Aw nw cw), (7, .int .i64 i), (8, pt b102), (10, .int .i64 e117), (11, .slice A9204 n9205 c9206)] 1 ?_
              refine RunR.nn ?_
              refine RunC.seq ?_
              refine RunC.sr ?_
              refine RunR.sl hU [] 3 3 [0, 3, 4, 6, 7, 8, 10, 11, 89] [(0, .slice As l.length cs), (3, pt d25), (4, pt wv), (6, .slice Aw nw cw), (7, .int .i64 i), (8, pt b102), (10, .int .i64 e117), (11, .slice A9204 n9205 c9206), (89, .bool (decide (e117 = 0)))] 3 ?_
              refine RunR.ev [0, 3, 4, 6, 7, 8, 10, 11, 89] [(0, .slice As l.length cs), (3, pt d25), (4, pt wv), (6, .slice Aw nw cw), (7, .int .i64 i), (8, pt b102), (10, .int .i64 e117), (11, .slice A9204 n9205 c9206), (89, .bool (decide (e117 = 0)))] ?_
              have hk216 : (e117 = 0) := by exact h203
              refine RunR.enveq [(0, .slice As l.length cs), (3, pt d25), (4, pt wv), (6, .slice Aw nw cw), (7, .int .i64 i), (8, pt b102), (10, .int .i64 e117), (11, .slice A9204 n9205 c9206), (89, .bool true)] (by rw [decide_eq_true hk216]; try rfl) ?_
              refine RunR.sl hU [] 1 4 [0, 3, 4, 6, 7, 8, 10, 11, 89, 90] [(0, .slice As l.length cs), (3, pt d25), (4, pt wv), (6, .slice Aw nw cw), (7, .int .i64 i), (8, pt b102), (10, .int .i64 e117), (11, .slice A9204 n9205 c9206), (89, .bool true), (90, pt wv)] 1 ?_
              refine RunR.st (some 91) (.call { callee := .value (.func 18), args := #[.tmp 90], argTypes := #[32] }) (Step.cn 18 [pt wv] [blk wv 72 [pt d25], blk d25 70 [.slice A96 n97 c98, .slice Wb119 m2120 wc2121, .int .i64 lf3123, .bool dn3124], row 5 1 (.slice A96 n97 c98) n97 (nums .u8 ss2118), row 51 2 (.slice Wb119 m2120 wc2121) m2120 (chV ws2122), chd .u8 ws2122] [row 23 1 (.slice A9204 n9205 c9206) n9205 (rowsV zs207), rws .u8 (xw ++ zs207), row 51 2 (.slice La103 lm104 lc105) lm104 (chV ls106), chd .u8 ls106, blk b102 26 [.slice bA72 bl74.length bc73, .slice yA75 yl77.length yc76, .int .i64 ff78, .slice kA79 kb81.length kc80, .int .i64 gg82, .slice qA83 qb85.length qc84], row 23 1 (.slice Aw nw cw) nw (rowsV xw), vw As (txV l), vws (txB l), vws (txY l), vws (txK l), vws (txQ l)] (wl_seen_spec wv d25 A96 n97 c98 ss2118 Wb119 m2120 wc2121 ws2122 lf3123 dn3124 hp126 (by assumption) (by assumption) (fun h => hp13 (by exact h)) (by assumption) (by assumption) (by assumption) (by omega) (by assumption) (by assumption) (fun h => hp132 (by exact h))) [2, 2, 2, 2, 2] ?_)
              rintro _ _ ⟨A9217, n9218, c9219, zs220, rfl, rfl, hp221, hp222, hp223, hp224, hp225, hp226⟩
              refine RunR.sl hU [] 1 6 [0, 3, 4, 6, 7, 8, 10, 11, 89, 91, 92] [(0, .slice As l.length cs), (3, pt d25), (4, pt wv), (6, .slice Aw nw cw), (7, .int .i64 i), (8, pt b102), (10, .int .i64 e117), (11, .slice A9204 n9205 c9206), (89, .bool true), (91, .slice A9217 n9218 c9219), (92, .slice A9204 n9205 c9206)] 1 ?_
              refine RunR.st (some 93) (.call { callee := .value (.func 17), args := #[.tmp 91, .tmp 92], argTypes := #[39, 39] }) (Step.cl 17 [.slice A9217 n9218 c9219, .slice A9204 n9205 c9206] [] [vw A9217 (rowsV zs220), vws (rowsL .u8 zs220), vw A9204 (rowsV zs207), vws (rowsL .u8 zs207)] [row 23 1 (.slice A9217 n9218 c9219) n9218 (rowsV zs220), rws .u8 zs220, blk wv 72 [pt d25], blk d25 70 [.slice A96 n97 c98, .slice Wb119 m2120 wc2121, .int .i64 lf3123, .bool dn3124], row 5 1 (.slice A96 n97 c98) n97 (nums .u8 ss2118), row 51 2 (.slice Wb119 m2120 wc2121) m2120 (chV ws2122), chd .u8 ws2122, row 23 1 (.slice A9204 n9205 c9206) n9205 (rowsV zs207), rws .u8 (xw ++ zs207), row 51 2 (.slice La103 lm104 lc105) lm104 (chV ls106), chd .u8 ls106, blk b102 26 [.slice bA72 bl74.length bc73, .slice yA75 yl77.length yc76, .int .i64 ff78, .slice kA79 kb81.length kc80, .int .i64 gg82, .slice qA83 qb85.length qc84], row 23 1 (.slice Aw nw cw) nw (rowsV xw), vw As (txV l), vws (txB l), vws (txY l), vws (txK l), vws (txQ l)] (wr_Same_spec A9217 n9218 c9219 zs220 A9204 n9205 c9206 zs207 (by assumption) (by assumption) (by assumption) (by assumption) (by assumption) (by assumption)) [] (((((Lend.nil _).ofRwsR (a := xw) 8 (by kernel_rfl)).tells 7 (row 23 1 (.slice A9204 n9205 c9206) n9205 (rowsV zs207)) A9204 (rowsV zs207) (by kernel_rfl) (tells_row _ _ _ _ _ _)).ofRws 1 (by kernel_rfl)).tells 0 (row 23 1 (.slice A9217 n9218 c9219) n9218 (rowsV zs220)) A9217 (rowsV zs220) (by kernel_rfl) (tells_row _ _ _ _ _ _)) ?_)
              rintro _ _ ⟨rfl, rfl⟩
              refine RunR.sl hU [] 2 9 [0, 3, 4, 6, 7, 8, 10, 11, 95] [(0, .slice As l.length cs), (3, pt d25), (4, pt wv), (6, .slice Aw nw cw), (7, .int .i64 i), (8, pt b102), (10, .int .i64 e117), (11, .slice A9204 n9205 c9206), (95, .bool (!decide (rb zs220 = rb zs207)))] 2 ?_
              refine RunR.ev [0, 3, 4, 6, 7, 8, 10, 11, 95] [(0, .slice As l.length cs), (3, pt d25), (4, pt wv), (6, .slice Aw nw cw), (7, .int .i64 i), (8, pt b102), (10, .int .i64 e117), (11, .slice A9204 n9205 c9206), (95, .bool (!decide (rb zs220 = rb zs207)))] ?_
              have hk227 : (rb zs220 = rb zs207) := by exact at_done (by assumption) (by assumption) (by assumption) hsw (by assumption) (by assumption)
              refine RunR.enveq [(0, .slice As l.length cs), (3, pt d25), (4, pt wv), (6, .slice Aw nw cw), (7, .int .i64 i), (8, pt b102), (10, .int .i64 e117), (11, .slice A9204 n9205 c9206), (95, .bool false)] (by rw [decide_eq_true hk227]; try rfl) ?_
              refine RunR.nn ?_
              refine RunC.cond (b := false) (by kernel_rfl) (fun h => by cases h) (fun _ => ?_)
              refine RunC.ksr ?_
              refine RunR.sl hU [] 2 2 [0, 3, 4, 6, 7, 8, 10, 11, 96, 97] [(0, .slice As l.length cs), (3, pt d25), (4, pt wv), (6, .slice Aw nw cw), (7, .int .i64 i), (8, pt b102), (10, .int .i64 e117), (11, .slice A9204 n9205 c9206), (96, pt d25), (97, .pointer (some ⟨b102, 3, none⟩))] 2 ?_
              refine RunR.st (some 98) (.load 24 (.tmp 97)) (Step.load_blk hU 11 b102 (3) 26 [.slice bA72 bl74.length bc73, .slice yA75 yl77.length yc76, .int .i64 ff78, .slice kA79 kb81.length kc80, .int .i64 gg82, .slice qA83 qb85.length qc84] (.slice kA79 kb81.length kc80) (by kernel_rfl) (by kernel_rfl) (by kernel_rfl) (by kernel_rfl) ?_)
              refine RunR.st (some 99) (.call { callee := .value (.func 21), args := #[.tmp 96, .tmp 98], argTypes := #[30, 24] }) (Step.cl 21 [pt d25, .slice kA79 kb81.length kc80] [blk d25 70 [.slice A96 n97 c98, .slice Wb119 m2120 wc2121, .int .i64 lf3123, .bool dn3124], row 5 1 (.slice A96 n97 c98) n97 (nums .u8 ss2118), row 51 2 (.slice Wb119 m2120 wc2121) m2120 (chV ws2122), chd .u8 ws2122] [vw kA79 (bls kb81)] [row 23 1 (.slice A9217 n9218 c9219) n9218 (rowsV zs220), rws .u8 zs220, blk wv 72 [pt d25], row 23 1 (.slice A9204 n9205 c9206) n9205 (rowsV zs207), rws .u8 (xw ++ zs207), row 51 2 (.slice La103 lm104 lc105) lm104 (chV ls106), chd .u8 ls106, blk b102 26 [.slice bA72 bl74.length bc73, .slice yA75 yl77.length yc76, .int .i64 ff78, .slice kA79 kb81.length kc80, .int .i64 gg82, .slice qA83 qb85.length qc84], row 23 1 (.slice Aw nw cw) nw (rowsV xw), vw As (txV l), vws (txB l), vws (txY l), vws (txK l), vws (txQ l)] (d_Crash_spec d25 A96 n97 c98 ss2118 Wb119 m2120 wc2121 ws2122 lf3123 dn3124 kA79 kc80 kb81 kb81.length hp126 (by assumption) (by assumption) (fun h => hp13 (by exact h)) (by assumption) (by assumption) (by assumption) (by omega) (by assumption) (by assumption) (fun h => hp132 (by exact h)) (by omega) (by rfl)) [3, 3, 3, 3] ((Lend.nil _).tells 12 (vws (txK l)) kA79 (bls kb81) (by kernel_rfl) (tells_txK hg86)) ?_)
              rintro _ _ ⟨ss2228, rfl, rfl, hp229, hp230, hp231⟩
              refine RunR.nx ?_
              refine RunR.sl hU [] 2 2 [0, 3, 4, 6, 7, 8, 10, 11, 100, 101] [(0, .slice As l.length cs), (3, pt d25), (4, pt wv), (6, .slice Aw nw cw), (7, .int .i64 i), (8, pt b102), (10, .int .i64 e117), (11, .slice A9204 n9205 c9206), (100, pt d25), (101, .pointer (some ⟨b102, 4, none⟩))] 2 ?_
              refine RunR.st (some 102) (.load 3 (.tmp 101)) (Step.load_blk hU 11 b102 (4) 26 [.slice bA72 bl74.length bc73, .slice yA75 yl77.length yc76, .int .i64 ff78, .slice kA79 kb81.length kc80, .int .i64 gg82, .slice qA83 qb85.length qc84] (.int .i64 gg82) (by kernel_rfl) (by kernel_rfl) (by kernel_rfl) (by kernel_rfl) ?_)
              refine RunR.st (some 103) (.call { callee := .value (.func 20), args := #[.tmp 100, .tmp 102], argTypes := #[30, 3] }) (Step.cn 20 [pt d25, .int .i64 gg82] [blk d25 70 [.slice A96 n97 c98, .slice none 0 0, .int .i64 0, .bool false]] [row 5 1 (.slice A96 n97 c98) n97 (nums .u8 ss2228), row 51 2 (.slice none 0 0) 0 (chV ([] : List Ch)), chd .u8 ([] : List Ch), row 23 1 (.slice A9217 n9218 c9219) n9218 (rowsV zs220), rws .u8 zs220, blk wv 72 [pt d25], row 23 1 (.slice A9204 n9205 c9206) n9205 (rowsV zs207), rws .u8 (xw ++ zs207), row 51 2 (.slice La103 lm104 lc105) lm104 (chV ls106), chd .u8 ls106, blk b102 26 [.slice bA72 bl74.length bc73, .slice yA75 yl77.length yc76, .int .i64 ff78, .slice kA79 kb81.length kc80, .int .i64 gg82, .slice qA83 qb85.length qc84], row 23 1 (.slice Aw nw cw) nw (rowsV xw), vw As (txV l), vws (txB l), vws (txY l), vws (txK l), vws (txQ l)] (d_Arm_spec d25 A96 n97 c98 none 0 0 0 false gg82 (by assumption)) [0] ?_)
              rintro _ _ ⟨lf2232, rfl, rfl, hp233, hp234⟩
              refine RunR.nx ?_
              refine RunR.sl hU [] 1 1 [0, 3, 4, 6, 7, 8, 10, 11, 104] [(0, .slice As l.length cs), (3, pt d25), (4, pt wv), (6, .slice Aw nw cw), (7, .int .i64 i), (8, pt b102), (10, .int .i64 e117), (11, .slice A9204 n9205 c9206), (104, pt d25)] 1 ?_
              refine RunR.st (some 105) (.call { callee := .value (.func 14), args := #[.tmp 104], argTypes := #[30] }) (Step.cn 14 [pt d25] [blk d25 70 [.slice A96 n97 c98, .slice none 0 0, .int .i64 lf2232, .bool false], row 5 1 (.slice A96 n97 c98) n97 (nums .u8 ss2228), row 51 2 (.slice none 0 0) 0 (chV ([] : List Ch)), chd .u8 ([] : List Ch)] [row 23 1 (.slice A9217 n9218 c9219) n9218 (rowsV zs220), rws .u8 zs220, blk wv 72 [pt d25], row 23 1 (.slice A9204 n9205 c9206) n9205 (rowsV zs207), rws .u8 (xw ++ zs207), row 51 2 (.slice La103 lm104 lc105) lm104 (chV ls106), chd .u8 ls106, blk b102 26 [.slice bA72 bl74.length bc73, .slice yA75 yl77.length yc76, .int .i64 ff78, .slice kA79 kb81.length kc80, .int .i64 gg82, .slice qA83 qb85.length qc84], row 23 1 (.slice Aw nw cw) nw (rowsV xw), vw As (txV l), vws (txB l), vws (txY l), vws (txK l), vws (txQ l)] (wl_Open_spec d25 A96 n97 c98 ss2228 none 0 0 ([] : List Ch) lf2232 false hp230 (by assumption) (by assumption) (fun h => hp13 (by exact h)) (by assumption) (by assumption) (by rfl) (by omega) (by exact ChOK.nil _) (by exact WOK.nil _) (fun h => absurd h (by decide)) (by assumption)) [0, 0, 0, 0] ?_)
              rintro _ _ (⟨rfl, rfl, hp235⟩ | ⟨e236, ss2237, Wb238, m2239, wc2240, ws2241, lf3242, dn3243, rfl, rfl, hp244, hp245, hp246, hp247, hp248, hp249, hp250, hp251, hp252, hp253, hp254⟩ | ⟨w2255, ss2256, Wb257, m2258, wc2259, ws2260, lf3261, dn3262, rfl, rfl, hp263, hp264, hp265, hp266, hp267, hp268, hp269, hp270, hp271, hp272⟩)
              · skip
                first | (have hq273f := open_calm hp235 (by first | exact calm0 | assumption) (by assumption) (WOK.dat (by first | assumption | exact WOK.nil _)) (by omega); obtain ⟨hq273a, hq273b, hq273c, hq273d, hq273e⟩ := hq273f; have hq273g := congrArg List.length hq273c; simp only [dat_len, List.length_nil] at hq273g) | skip
                exfalso; omega
              · skip
                first | (have hq274f := open_calm hp244 (by first | exact calm0 | assumption) (by assumption) (WOK.dat (by first | assumption | exact WOK.nil _)) (by omega); obtain ⟨hq274a, hq274b, hq274c, hq274d, hq274e⟩ := hq274f; have hq274g := congrArg List.length hq274c; simp only [dat_len, List.length_nil] at hq274g) | skip
                refine RunR.nx ?_
                refine RunR.sl hU [] 2 2 [0, 3, 4, 6, 7, 10, 11, 106, 107] [(0, .slice As l.length cs), (3, pt d25), (4, pt wv), (6, .slice Aw nw cw), (7, .int .i64 i), (10, .int .i64 e117), (11, .slice A9204 n9205 c9206), (106, pt d25), (107, .pointer (some ⟨b102, 5, none⟩))] 2 ?_
                refine RunR.st (some 108) (.load 24 (.tmp 107)) (Step.load_blk hU 11 b102 (5) 26 [.slice bA72 bl74.length bc73, .slice yA75 yl77.length yc76, .int .i64 ff78, .slice kA79 kb81.length kc80, .int .i64 gg82, .slice qA83 qb85.length qc84] (.slice qA83 qb85.length qc84) (by kernel_rfl) (by kernel_rfl) (by kernel_rfl) (by kernel_rfl) ?_)
                refine RunR.st (some 109) (.call { callee := .value (.func 21), args := #[.tmp 106, .tmp 108], argTypes := #[30, 24] }) (Step.cl 21 [pt d25, .slice qA83 qb85.length qc84] [blk d25 70 [.slice A96 n97 c98, .slice Wb238 m2239 wc2240, .int .i64 lf3242, .bool dn3243], row 5 1 (.slice A96 n97 c98) n97 (nums .u8 ss2237), row 51 2 (.slice Wb238 m2239 wc2240) m2239 (chV ws2241), chd .u8 ws2241] [vw qA83 (bls qb85)] [row 23 1 (.slice A9217 n9218 c9219) n9218 (rowsV zs220), rws .u8 zs220, blk wv 72 [pt d25], row 23 1 (.slice A9204 n9205 c9206) n9205 (rowsV zs207), rws .u8 (xw ++ zs207), row 51 2 (.slice La103 lm104 lc105) lm104 (chV ls106), chd .u8 ls106, blk b102 26 [.slice bA72 bl74.length bc73, .slice yA75 yl77.length yc76, .int .i64 ff78, .slice kA79 kb81.length kc80, .int .i64 gg82, .slice qA83 qb85.length qc84], row 23 1 (.slice Aw nw cw) nw (rowsV xw), vw As (txV l), vws (txB l), vws (txY l), vws (txK l), vws (txQ l)] (d_Crash_spec d25 A96 n97 c98 ss2237 Wb238 m2239 wc2240 ws2241 lf3242 dn3243 qA83 qc84 qb85 qb85.length hp245 (by assumption) (by assumption) (fun h => hp13 (by exact h)) (by assumption) (by assumption) (by assumption) (by omega) (by assumption) (by assumption) (fun h => hp251 (by exact h)) (by omega) (by rfl)) [0, 0, 0, 0] ((Lend.nil _).tells 13 (vws (txQ l)) qA83 (bls qb85) (by kernel_rfl) (tells_txQ hg86)) ?_)
                rintro _ _ ⟨ss2275, rfl, rfl, hp276, hp277, hp278⟩
                refine RunR.nx ?_
                refine RunR.sl hU [] 1 1 [0, 3, 4, 6, 7, 10, 11, 111] [(0, .slice As l.length cs), (3, pt d25), (4, pt wv), (6, .slice Aw nw cw), (7, .int .i64 i), (10, .int .i64 e117), (11, .slice A9204 n9205 c9206), (111, pt d25)] 1 ?_
                refine RunR.st (some 112) (.call { callee := .value (.func 14), args := #[.tmp 111], argTypes := #[30] }) (Step.cn 14 [pt d25] [blk d25 70 [.slice A96 n97 c98, .slice none 0 0, .int .i64 0, .bool false], row 5 1 (.slice A96 n97 c98) n97 (nums .u8 ss2275), row 51 2 (.slice none 0 0) 0 (chV ([] : List Ch)), chd .u8 ([] : List Ch)] [row 23 1 (.slice A9217 n9218 c9219) n9218 (rowsV zs220), rws .u8 zs220, blk wv 72 [pt d25], row 23 1 (.slice A9204 n9205 c9206) n9205 (rowsV zs207), rws .u8 (xw ++ zs207), row 51 2 (.slice La103 lm104 lc105) lm104 (chV ls106), chd .u8 ls106, blk b102 26 [.slice bA72 bl74.length bc73, .slice yA75 yl77.length yc76, .int .i64 ff78, .slice kA79 kb81.length kc80, .int .i64 gg82, .slice qA83 qb85.length qc84], row 23 1 (.slice Aw nw cw) nw (rowsV xw), vw As (txV l), vws (txB l), vws (txY l), vws (txK l), vws (txQ l)] (wl_Open_spec d25 A96 n97 c98 ss2275 none 0 0 ([] : List Ch) 0 false hp277 (by assumption) (by assumption) (fun h => hp13 (by exact h)) (by assumption) (by assumption) (by rfl) (by omega) (by exact ChOK.nil _) (by exact WOK.nil _) (fun h => absurd h (by decide)) (by omega)) [0, 0, 0, 0] ?_)
                rintro _ _ (⟨rfl, rfl, hp279⟩ | ⟨e280, ss2281, Wb282, m2283, wc2284, ws2285, lf3286, dn3287, rfl, rfl, hp288, hp289, hp290, hp291, hp292, hp293, hp294, hp295, hp296, hp297, hp298⟩ | ⟨w2299, ss2300, Wb301, m2302, wc2303, ws2304, lf3305, dn3306, rfl, rfl, hp307, hp308, hp309, hp310, hp311, hp312, hp313, hp314, hp315, hp316⟩)
                · skip
                  first | (have hq317f := open_calm hp279 (by first | exact calm0 | assumption) (by assumption) (WOK.dat (by first | assumption | exact WOK.nil _)) (by omega); obtain ⟨hq317a, hq317b, hq317c, hq317d, hq317e⟩ := hq317f; have hq317g := congrArg List.length hq317c; simp only [dat_len, List.length_nil] at hq317g) | skip
                  exfalso; omega
                · skip
                  first | (have hq318f := open_calm hp288 (by first | exact calm0 | assumption) (by assumption) (WOK.dat (by first | assumption | exact WOK.nil _)) (by omega); obtain ⟨hq318a, hq318b, hq318c, hq318d, hq318e⟩ := hq318f; have hq318g := congrArg List.length hq318c; simp only [dat_len, List.length_nil] at hq318g) | skip
                  exfalso; omega
                · skip
                  first | (have hq319f := open_calm hp307 (by first | exact calm0 | assumption) (by assumption) (WOK.dat (by first | assumption | exact WOK.nil _)) (by omega); obtain ⟨hq319a, hq319b, hq319c, hq319d, hq319e⟩ := hq319f; have hq319g := congrArg List.length hq319c; simp only [dat_len, List.length_nil] at hq319g) | skip
                  refine RunR.sl hU [] 5 7 [0, 3, 4, 6, 7, 10, 11, 12, 13] [(0, .slice As l.length cs), (3, pt d25), (4, pt wv), (6, .slice Aw nw cw), (7, .int .i64 i), (10, .int .i64 e117), (11, .slice A9204 n9205 c9206), (12, pt w2299), (13, .int .i64 0)] 5 ?_
                  refine RunR.nn ?_
                  refine RunC.seq ?_
                  refine RunC.sr ?_
                  refine RunR.sl hU [] 6 6 [0, 3, 4, 6, 7, 10, 11, 12, 120] [(0, .slice As l.length cs), (3, pt d25), (4, pt wv), (6, .slice Aw nw cw), (7, .int .i64 i), (10, .int .i64 e117), (11, .slice A9204 n9205 c9206), (12, pt w2299), (120, .bool false)] 6 ?_
                  refine RunR.nn ?_
                  refine RunC.cond (b := false) (by kernel_rfl) (fun h => by cases h) (fun _ => ?_)
                  refine RunC.ksr ?_
                  refine RunR.sl hU [] 2 2 [0, 3, 4, 6, 7, 10, 11] [(0, .slice As l.length cs), (3, pt d25), (4, pt w2299), (6, .slice Aw nw cw), (7, .int .i64 i), (10, .int .i64 e117), (11, .slice A9204 n9205 c9206)] 2 ?_
                  refine RunR.nx ?_
                  refine RunR.sl hU [] 1 1 [0, 3, 4, 6, 7, 10, 11, 122] [(0, .slice As l.length cs), (3, pt d25), (4, pt w2299), (6, .slice Aw nw cw), (7, .int .i64 i), (10, .int .i64 e117), (11, .slice A9204 n9205 c9206), (122, pt w2299)] 1 ?_
                  refine RunR.st (some 123) (.call { callee := .value (.func 18), args := #[.tmp 122], argTypes := #[32] }) (Step.cn 18 [pt w2299] [blk w2299 72 [pt d25], blk d25 70 [.slice A96 n97 c98, .slice Wb301 m2302 wc2303, .int .i64 lf3305, .bool dn3306], row 5 1 (.slice A96 n97 c98) n97 (nums .u8 ss2300), row 51 2 (.slice Wb301 m2302 wc2303) m2302 (chV ws2304), chd .u8 ws2304] [row 23 1 (.slice A9217 n9218 c9219) n9218 (rowsV zs220), rws .u8 zs220, blk wv 72 [pt d25], row 23 1 (.slice A9204 n9205 c9206) n9205 (rowsV zs207), rws .u8 (xw ++ zs207), row 51 2 (.slice La103 lm104 lc105) lm104 (chV ls106), chd .u8 ls106, blk b102 26 [.slice bA72 bl74.length bc73, .slice yA75 yl77.length yc76, .int .i64 ff78, .slice kA79 kb81.length kc80, .int .i64 gg82, .slice qA83 qb85.length qc84], row 23 1 (.slice Aw nw cw) nw (rowsV xw), vw As (txV l), vws (txB l), vws (txY l), vws (txK l), vws (txQ l)] (wl_seen_spec w2299 d25 A96 n97 c98 ss2300 Wb301 m2302 wc2303 ws2304 lf3305 dn3306 hp308 (by assumption) (by assumption) (fun h => hp13 (by exact h)) (by assumption) (by assumption) (by assumption) (by omega) (by assumption) (by assumption) (fun h => hp314 (by exact h))) [0, 0, 0, 0, 0] ?_)
                  rintro _ _ ⟨A9320, n9321, c9322, zs323, rfl, rfl, hp324, hp325, hp326, hp327, hp328, hp329⟩
                  refine RunR.sl hU [] 1 3 [0, 3, 4, 6, 7, 10, 11, 14] [(0, .slice As l.length cs), (3, pt d25), (4, pt w2299), (6, .slice Aw nw cw), (7, .int .i64 i), (10, .int .i64 e117), (11, .slice A9204 n9205 c9206), (14, .slice A9320 n9321 c9322)] 1 ?_
                  refine RunR.nn ?_
                  refine RunC.seq ?_
                  refine RunC.sr ?_
                  refine RunR.sl hU [] 2 2 [0, 3, 4, 6, 7, 10, 14, 124, 125] [(0, .slice As l.length cs), (3, pt d25), (4, pt w2299), (6, .slice Aw nw cw), (7, .int .i64 i), (10, .int .i64 e117), (14, .slice A9320 n9321 c9322), (124, .slice A9320 n9321 c9322), (125, .slice A9204 n9205 c9206)] 2 ?_
                  refine RunR.st (some 126) (.call { callee := .value (.func 17), args := #[.tmp 124, .tmp 125], argTypes := #[39, 39] }) (Step.cl 17 [.slice A9320 n9321 c9322, .slice A9204 n9205 c9206] [] [vw A9320 (rowsV zs323), vws (rowsL .u8 zs323), vw A9204 (rowsV zs207), vws (rowsL .u8 zs207)] [row 23 1 (.slice A9320 n9321 c9322) n9321 (rowsV zs323), rws .u8 zs323, blk w2299 72 [pt d25], blk d25 70 [.slice A96 n97 c98, .slice Wb301 m2302 wc2303, .int .i64 lf3305, .bool dn3306], row 5 1 (.slice A96 n97 c98) n97 (nums .u8 ss2300), row 51 2 (.slice Wb301 m2302 wc2303) m2302 (chV ws2304), chd .u8 ws2304, row 23 1 (.slice A9217 n9218 c9219) n9218 (rowsV zs220), rws .u8 zs220, blk wv 72 [pt d25], row 23 1 (.slice A9204 n9205 c9206) n9205 (rowsV zs207), rws .u8 (xw ++ zs207), row 51 2 (.slice La103 lm104 lc105) lm104 (chV ls106), chd .u8 ls106, blk b102 26 [.slice bA72 bl74.length bc73, .slice yA75 yl77.length yc76, .int .i64 ff78, .slice kA79 kb81.length kc80, .int .i64 gg82, .slice qA83 qb85.length qc84], row 23 1 (.slice Aw nw cw) nw (rowsV xw), vw As (txV l), vws (txB l), vws (txY l), vws (txK l), vws (txQ l)] (wr_Same_spec A9320 n9321 c9322 zs323 A9204 n9205 c9206 zs207 (by assumption) (by assumption) (by assumption) (by assumption) (by assumption) (by assumption)) [] (((((Lend.nil _).ofRwsR (a := xw) 11 (by kernel_rfl)).tells 10 (row 23 1 (.slice A9204 n9205 c9206) n9205 (rowsV zs207)) A9204 (rowsV zs207) (by kernel_rfl) (tells_row _ _ _ _ _ _)).ofRws 1 (by kernel_rfl)).tells 0 (row 23 1 (.slice A9320 n9321 c9322) n9321 (rowsV zs323)) A9320 (rowsV zs323) (by kernel_rfl) (tells_row _ _ _ _ _ _)) ?_)
                  rintro _ _ ⟨rfl, rfl⟩
                  refine RunR.sl hU [] 2 5 [0, 3, 4, 6, 7, 10, 14, 128] [(0, .slice As l.length cs), (3, pt d25), (4, pt w2299), (6, .slice Aw nw cw), (7, .int .i64 i), (10, .int .i64 e117), (14, .slice A9320 n9321 c9322), (128, .bool (!decide (rb zs323 = rb zs207)))] 2 ?_
                  refine RunR.ev [0, 3, 4, 6, 7, 10, 14, 128] [(0, .slice As l.length cs), (3, pt d25), (4, pt w2299), (6, .slice Aw nw cw), (7, .int .i64 i), (10, .int .i64 e117), (14, .slice A9320 n9321 c9322), (128, .bool (!decide (rb zs323 = rb zs207)))] ?_
                  have hk330 : (rb zs323 = rb zs207) := by exact at_have (at_end (by assumption) (by assumption) (by assumption) (by assumption) (by assumption) (by assumption) (by assumption) (le_and (by assumption)) (by assumption)) (by assumption) hsw (by assumption) (by assumption)
                  refine RunR.enveq [(0, .slice As l.length cs), (3, pt d25), (4, pt w2299), (6, .slice Aw nw cw), (7, .int .i64 i), (10, .int .i64 e117), (14, .slice A9320 n9321 c9322), (128, .bool false)] (by rw [decide_eq_true hk330]; try rfl) ?_
                  refine RunR.sl hU [] 9 14 [0, 3, 4, 6, 7, 14, 137] [(0, .slice As l.length cs), (3, pt d25), (4, pt w2299), (6, .slice Aw nw cw), (7, .int .i64 i), (14, .slice A9320 n9321 c9322), (137, .bool false)] 1 ?_
                  refine RunR.nn ?_
                  refine RunC.cond (b := false) (by kernel_rfl) (fun h => by cases h) (fun _ => ?_)
                  refine RunC.ksr ?_
                  refine RunR.sl hU [] 2 2 [0, 3, 4, 6, 7] [(0, .slice As l.length cs), (3, pt d25), (4, pt w2299), (6, .slice A9320 n9321 c9322), (7, .int .i64 i)] 2 ?_
                  refine RunR.nn ?_
                  refine RunC.exit ?_
                  refine kseq_e ?_
                  refine kblock_e ?_
                  refine kseq_n ?_
                  refine RunC.region ?_
                  refine RunR.sil hU [1] 3 3 [0, 3, 4, 6, 7] [(0, .slice As l.length cs), (3, pt d25), (4, pt w2299), (6, .slice A9320 n9321 c9322), (7, .int .i64 (i + 1))] ((True) ∧ (-9223372036854775808 ≤ (i + 1) ∧ (i + 1) < 9223372036854775808) ∧ (True) ∧ True) rfl (by kernel_rfl) ⟨trivial, (by omega), trivial, trivial⟩ ?_
                  refine RunR.dn ?_
                  refine kloop_n _ [0, 3, 4, 6, 7] [3, 3, 3, 3, 2, 0, 0, 9, 9, 9, 9, 9] [(0, .slice As l.length cs), (3, pt d25), (4, pt w2299), (6, .slice A9320 n9321 c9322), (7, .int .i64 (i + 1))] [blk d25 70 [.slice A96 n97 c98, .slice Wb301 m2302 wc2303, .int .i64 lf3305, .bool dn3306], row 5 1 (.slice A96 n97 c98) n97 (nums .u8 ss2300), row 51 2 (.slice Wb301 m2302 wc2303) m2302 (chV ws2304), chd .u8 ws2304, blk w2299 72 [pt d25], row 23 1 (.slice A9320 n9321 c9322) n9321 (rowsV zs323), rws .u8 zs323, vw As (txV l), vws (txB l), vws (txY l), vws (txK l), vws (txQ l)] (by kernel_rfl) (by kernel_rfl) ?_ ⟨(i + 1), ss2300, Wb301, m2302, wc2303, ws2304, lf3305, dn3306, w2299, A9320, n9321, c9322, zs323, (by omega), (by assumption), hp308, (by assumption), (by assumption), (by assumption), (by omega), (by assumption), (by assumption), (by assumption), (fun h => hp314 (by exact h)), (by assumption), (by assumption), (by exact at_start (by assumption) (by assumption)), (by assumption), (by assumption), (by assumption), (by exact seen8 (by assumption) (by assumption) (by assumption)), (fun h => hp329 (by exact h)), rfl, (by rfl), (by rfl)⟩
                  show ((12 - (i + 1)).toNat : Nat) < ((12 - i).toNat : Nat)
                  omega
              · skip
                first | (have hq331f := open_calm hp263 (by first | exact calm0 | assumption) (by assumption) (WOK.dat (by first | assumption | exact WOK.nil _)) (by omega); obtain ⟨hq331a, hq331b, hq331c, hq331d, hq331e⟩ := hq331f; have hq331g := congrArg List.length hq331c; simp only [dat_len, List.length_nil] at hq331g) | skip
                refine RunR.nx ?_
                refine RunR.sl hU [] 2 2 [0, 3, 4, 6, 7, 10, 11, 106, 107] [(0, .slice As l.length cs), (3, pt d25), (4, pt wv), (6, .slice Aw nw cw), (7, .int .i64 i), (10, .int .i64 e117), (11, .slice A9204 n9205 c9206), (106, pt d25), (107, .pointer (some ⟨b102, 5, none⟩))] 2 ?_
                refine RunR.st (some 108) (.load 24 (.tmp 107)) (Step.load_blk hU 12 b102 (5) 26 [.slice bA72 bl74.length bc73, .slice yA75 yl77.length yc76, .int .i64 ff78, .slice kA79 kb81.length kc80, .int .i64 gg82, .slice qA83 qb85.length qc84] (.slice qA83 qb85.length qc84) (by kernel_rfl) (by kernel_rfl) (by kernel_rfl) (by kernel_rfl) ?_)
                refine RunR.st (some 109) (.call { callee := .value (.func 21), args := #[.tmp 106, .tmp 108], argTypes := #[30, 24] }) (Step.cl 21 [pt d25, .slice qA83 qb85.length qc84] [blk d25 70 [.slice A96 n97 c98, .slice Wb257 m2258 wc2259, .int .i64 lf3261, .bool dn3262], row 5 1 (.slice A96 n97 c98) n97 (nums .u8 ss2256), row 51 2 (.slice Wb257 m2258 wc2259) m2258 (chV ws2260), chd .u8 ws2260] [vw qA83 (bls qb85)] [blk w2255 72 [pt d25], row 23 1 (.slice A9217 n9218 c9219) n9218 (rowsV zs220), rws .u8 zs220, blk wv 72 [pt d25], row 23 1 (.slice A9204 n9205 c9206) n9205 (rowsV zs207), rws .u8 (xw ++ zs207), row 51 2 (.slice La103 lm104 lc105) lm104 (chV ls106), chd .u8 ls106, blk b102 26 [.slice bA72 bl74.length bc73, .slice yA75 yl77.length yc76, .int .i64 ff78, .slice kA79 kb81.length kc80, .int .i64 gg82, .slice qA83 qb85.length qc84], row 23 1 (.slice Aw nw cw) nw (rowsV xw), vw As (txV l), vws (txB l), vws (txY l), vws (txK l), vws (txQ l)] (d_Crash_spec d25 A96 n97 c98 ss2256 Wb257 m2258 wc2259 ws2260 lf3261 dn3262 qA83 qc84 qb85 qb85.length hp264 (by assumption) (by assumption) (fun h => hp13 (by exact h)) (by assumption) (by assumption) (by assumption) (by omega) (by assumption) (by assumption) (fun h => hp270 (by exact h)) (by omega) (by rfl)) [1, 1, 1, 1] ((Lend.nil _).tells 14 (vws (txQ l)) qA83 (bls qb85) (by kernel_rfl) (tells_txQ hg86)) ?_)
                rintro _ _ ⟨ss2332, rfl, rfl, hp333, hp334, hp335⟩
                refine RunR.nx ?_
                refine RunR.sl hU [] 1 1 [0, 3, 4, 6, 7, 10, 11, 111] [(0, .slice As l.length cs), (3, pt d25), (4, pt wv), (6, .slice Aw nw cw), (7, .int .i64 i), (10, .int .i64 e117), (11, .slice A9204 n9205 c9206), (111, pt d25)] 1 ?_
                refine RunR.st (some 112) (.call { callee := .value (.func 14), args := #[.tmp 111], argTypes := #[30] }) (Step.cn 14 [pt d25] [blk d25 70 [.slice A96 n97 c98, .slice none 0 0, .int .i64 0, .bool false], row 5 1 (.slice A96 n97 c98) n97 (nums .u8 ss2332), row 51 2 (.slice none 0 0) 0 (chV ([] : List Ch)), chd .u8 ([] : List Ch)] [blk w2255 72 [pt d25], row 23 1 (.slice A9217 n9218 c9219) n9218 (rowsV zs220), rws .u8 zs220, blk wv 72 [pt d25], row 23 1 (.slice A9204 n9205 c9206) n9205 (rowsV zs207), rws .u8 (xw ++ zs207), row 51 2 (.slice La103 lm104 lc105) lm104 (chV ls106), chd .u8 ls106, blk b102 26 [.slice bA72 bl74.length bc73, .slice yA75 yl77.length yc76, .int .i64 ff78, .slice kA79 kb81.length kc80, .int .i64 gg82, .slice qA83 qb85.length qc84], row 23 1 (.slice Aw nw cw) nw (rowsV xw), vw As (txV l), vws (txB l), vws (txY l), vws (txK l), vws (txQ l)] (wl_Open_spec d25 A96 n97 c98 ss2332 none 0 0 ([] : List Ch) 0 false hp334 (by assumption) (by assumption) (fun h => hp13 (by exact h)) (by assumption) (by assumption) (by rfl) (by omega) (by exact ChOK.nil _) (by exact WOK.nil _) (fun h => absurd h (by decide)) (by omega)) [0, 0, 0, 0] ?_)
                rintro _ _ (⟨rfl, rfl, hp336⟩ | ⟨e337, ss2338, Wb339, m2340, wc2341, ws2342, lf3343, dn3344, rfl, rfl, hp345, hp346, hp347, hp348, hp349, hp350, hp351, hp352, hp353, hp354, hp355⟩ | ⟨w2356, ss2357, Wb358, m2359, wc2360, ws2361, lf3362, dn3363, rfl, rfl, hp364, hp365, hp366, hp367, hp368, hp369, hp370, hp371, hp372, hp373⟩)
                · skip
                  first | (have hq374f := open_calm hp336 (by first | exact calm0 | assumption) (by assumption) (WOK.dat (by first | assumption | exact WOK.nil _)) (by omega); obtain ⟨hq374a, hq374b, hq374c, hq374d, hq374e⟩ := hq374f; have hq374g := congrArg List.length hq374c; simp only [dat_len, List.length_nil] at hq374g) | skip
                  exfalso; omega
                · skip
                  first | (have hq375f := open_calm hp345 (by first | exact calm0 | assumption) (by assumption) (WOK.dat (by first | assumption | exact WOK.nil _)) (by omega); obtain ⟨hq375a, hq375b, hq375c, hq375d, hq375e⟩ := hq375f; have hq375g := congrArg List.length hq375c; simp only [dat_len, List.length_nil] at hq375g) | skip
                  exfalso; omega
                · skip
                  first | (have hq376f := open_calm hp364 (by first | exact calm0 | assumption) (by assumption) (WOK.dat (by first | assumption | exact WOK.nil _)) (by omega); obtain ⟨hq376a, hq376b, hq376c, hq376d, hq376e⟩ := hq376f; have hq376g := congrArg List.length hq376c; simp only [dat_len, List.length_nil] at hq376g) | skip
                  refine RunR.sl hU [] 5 7 [0, 3, 4, 6, 7, 10, 11, 12, 13] [(0, .slice As l.length cs), (3, pt d25), (4, pt wv), (6, .slice Aw nw cw), (7, .int .i64 i), (10, .int .i64 e117), (11, .slice A9204 n9205 c9206), (12, pt w2356), (13, .int .i64 0)] 5 ?_
                  refine RunR.nn ?_
                  refine RunC.seq ?_
                  refine RunC.sr ?_
                  refine RunR.sl hU [] 6 6 [0, 3, 4, 6, 7, 10, 11, 12, 120] [(0, .slice As l.length cs), (3, pt d25), (4, pt wv), (6, .slice Aw nw cw), (7, .int .i64 i), (10, .int .i64 e117), (11, .slice A9204 n9205 c9206), (12, pt w2356), (120, .bool false)] 6 ?_
                  refine RunR.nn ?_
                  refine RunC.cond (b := false) (by kernel_rfl) (fun h => by cases h) (fun _ => ?_)
                  refine RunC.ksr ?_
                  refine RunR.sl hU [] 2 2 [0, 3, 4, 6, 7, 10, 11] [(0, .slice As l.length cs), (3, pt d25), (4, pt w2356), (6, .slice Aw nw cw), (7, .int .i64 i), (10, .int .i64 e117), (11, .slice A9204 n9205 c9206)] 2 ?_
                  refine RunR.nx ?_
                  refine RunR.sl hU [] 1 1 [0, 3, 4, 6, 7, 10, 11, 122] [(0, .slice As l.length cs), (3, pt d25), (4, pt w2356), (6, .slice Aw nw cw), (7, .int .i64 i), (10, .int .i64 e117), (11, .slice A9204 n9205 c9206), (122, pt w2356)] 1 ?_
                  refine RunR.st (some 123) (.call { callee := .value (.func 18), args := #[.tmp 122], argTypes := #[32] }) (Step.cn 18 [pt w2356] [blk w2356 72 [pt d25], blk d25 70 [.slice A96 n97 c98, .slice Wb358 m2359 wc2360, .int .i64 lf3362, .bool dn3363], row 5 1 (.slice A96 n97 c98) n97 (nums .u8 ss2357), row 51 2 (.slice Wb358 m2359 wc2360) m2359 (chV ws2361), chd .u8 ws2361] [blk w2255 72 [pt d25], row 23 1 (.slice A9217 n9218 c9219) n9218 (rowsV zs220), rws .u8 zs220, blk wv 72 [pt d25], row 23 1 (.slice A9204 n9205 c9206) n9205 (rowsV zs207), rws .u8 (xw ++ zs207), row 51 2 (.slice La103 lm104 lc105) lm104 (chV ls106), chd .u8 ls106, blk b102 26 [.slice bA72 bl74.length bc73, .slice yA75 yl77.length yc76, .int .i64 ff78, .slice kA79 kb81.length kc80, .int .i64 gg82, .slice qA83 qb85.length qc84], row 23 1 (.slice Aw nw cw) nw (rowsV xw), vw As (txV l), vws (txB l), vws (txY l), vws (txK l), vws (txQ l)] (wl_seen_spec w2356 d25 A96 n97 c98 ss2357 Wb358 m2359 wc2360 ws2361 lf3362 dn3363 hp365 (by assumption) (by assumption) (fun h => hp13 (by exact h)) (by assumption) (by assumption) (by assumption) (by omega) (by assumption) (by assumption) (fun h => hp371 (by exact h))) [0, 0, 0, 0, 0] ?_)
                  rintro _ _ ⟨A9377, n9378, c9379, zs380, rfl, rfl, hp381, hp382, hp383, hp384, hp385, hp386⟩
                  refine RunR.sl hU [] 1 3 [0, 3, 4, 6, 7, 10, 11, 14] [(0, .slice As l.length cs), (3, pt d25), (4, pt w2356), (6, .slice Aw nw cw), (7, .int .i64 i), (10, .int .i64 e117), (11, .slice A9204 n9205 c9206), (14, .slice A9377 n9378 c9379)] 1 ?_
                  refine RunR.nn ?_
                  refine RunC.seq ?_
                  refine RunC.sr ?_
                  refine RunR.sl hU [] 2 2 [0, 3, 4, 6, 7, 10, 14, 124, 125] [(0, .slice As l.length cs), (3, pt d25), (4, pt w2356), (6, .slice Aw nw cw), (7, .int .i64 i), (10, .int .i64 e117), (14, .slice A9377 n9378 c9379), (124, .slice A9377 n9378 c9379), (125, .slice A9204 n9205 c9206)] 2 ?_
                  refine RunR.st (some 126) (.call { callee := .value (.func 17), args := #[.tmp 124, .tmp 125], argTypes := #[39, 39] }) (Step.cl 17 [.slice A9377 n9378 c9379, .slice A9204 n9205 c9206] [] [vw A9377 (rowsV zs380), vws (rowsL .u8 zs380), vw A9204 (rowsV zs207), vws (rowsL .u8 zs207)] [row 23 1 (.slice A9377 n9378 c9379) n9378 (rowsV zs380), rws .u8 zs380, blk w2356 72 [pt d25], blk d25 70 [.slice A96 n97 c98, .slice Wb358 m2359 wc2360, .int .i64 lf3362, .bool dn3363], row 5 1 (.slice A96 n97 c98) n97 (nums .u8 ss2357), row 51 2 (.slice Wb358 m2359 wc2360) m2359 (chV ws2361), chd .u8 ws2361, blk w2255 72 [pt d25], row 23 1 (.slice A9217 n9218 c9219) n9218 (rowsV zs220), rws .u8 zs220, blk wv 72 [pt d25], row 23 1 (.slice A9204 n9205 c9206) n9205 (rowsV zs207), rws .u8 (xw ++ zs207), row 51 2 (.slice La103 lm104 lc105) lm104 (chV ls106), chd .u8 ls106, blk b102 26 [.slice bA72 bl74.length bc73, .slice yA75 yl77.length yc76, .int .i64 ff78, .slice kA79 kb81.length kc80, .int .i64 gg82, .slice qA83 qb85.length qc84], row 23 1 (.slice Aw nw cw) nw (rowsV xw), vw As (txV l), vws (txB l), vws (txY l), vws (txK l), vws (txQ l)] (wr_Same_spec A9377 n9378 c9379 zs380 A9204 n9205 c9206 zs207 (by assumption) (by assumption) (by assumption) (by assumption) (by assumption) (by assumption)) [] (((((Lend.nil _).ofRwsR (a := xw) 12 (by kernel_rfl)).tells 11 (row 23 1 (.slice A9204 n9205 c9206) n9205 (rowsV zs207)) A9204 (rowsV zs207) (by kernel_rfl) (tells_row _ _ _ _ _ _)).ofRws 1 (by kernel_rfl)).tells 0 (row 23 1 (.slice A9377 n9378 c9379) n9378 (rowsV zs380)) A9377 (rowsV zs380) (by kernel_rfl) (tells_row _ _ _ _ _ _)) ?_)
                  rintro _ _ ⟨rfl, rfl⟩
                  refine RunR.sl hU [] 2 5 [0, 3, 4, 6, 7, 10, 14, 128] [(0, .slice As l.length cs), (3, pt d25), (4, pt w2356), (6, .slice Aw nw cw), (7, .int .i64 i), (10, .int .i64 e117), (14, .slice A9377 n9378 c9379), (128, .bool (!decide (rb zs380 = rb zs207)))] 2 ?_
                  refine RunR.ev [0, 3, 4, 6, 7, 10, 14, 128] [(0, .slice As l.length cs), (3, pt d25), (4, pt w2356), (6, .slice Aw nw cw), (7, .int .i64 i), (10, .int .i64 e117), (14, .slice A9377 n9378 c9379), (128, .bool (!decide (rb zs380 = rb zs207)))] ?_
                  have hk387 : (rb zs380 = rb zs207) := by exact at_have (at_end (by assumption) (by assumption) (by assumption) (by assumption) (by assumption) (by assumption) (by assumption) (le_and (by assumption)) (by assumption)) (by assumption) hsw (by assumption) (by assumption)
                  refine RunR.enveq [(0, .slice As l.length cs), (3, pt d25), (4, pt w2356), (6, .slice Aw nw cw), (7, .int .i64 i), (10, .int .i64 e117), (14, .slice A9377 n9378 c9379), (128, .bool false)] (by rw [decide_eq_true hk387]; try rfl) ?_
                  refine RunR.sl hU [] 9 14 [0, 3, 4, 6, 7, 14, 137] [(0, .slice As l.length cs), (3, pt d25), (4, pt w2356), (6, .slice Aw nw cw), (7, .int .i64 i), (14, .slice A9377 n9378 c9379), (137, .bool false)] 1 ?_
                  refine RunR.nn ?_
                  refine RunC.cond (b := false) (by kernel_rfl) (fun h => by cases h) (fun _ => ?_)
                  refine RunC.ksr ?_
                  refine RunR.sl hU [] 2 2 [0, 3, 4, 6, 7] [(0, .slice As l.length cs), (3, pt d25), (4, pt w2356), (6, .slice A9377 n9378 c9379), (7, .int .i64 i)] 2 ?_
                  refine RunR.nn ?_
                  refine RunC.exit ?_
                  refine kseq_e ?_
                  refine kblock_e ?_
                  refine kseq_n ?_
                  refine RunC.region ?_
                  refine RunR.sil hU [1] 3 3 [0, 3, 4, 6, 7] [(0, .slice As l.length cs), (3, pt d25), (4, pt w2356), (6, .slice A9377 n9378 c9379), (7, .int .i64 (i + 1))] ((True) ∧ (-9223372036854775808 ≤ (i + 1) ∧ (i + 1) < 9223372036854775808) ∧ (True) ∧ True) rfl (by kernel_rfl) ⟨trivial, (by omega), trivial, trivial⟩ ?_
                  refine RunR.dn ?_
                  refine kloop_n _ [0, 3, 4, 6, 7] [3, 3, 3, 3, 2, 0, 0, 10, 10, 10, 10, 10] [(0, .slice As l.length cs), (3, pt d25), (4, pt w2356), (6, .slice A9377 n9378 c9379), (7, .int .i64 (i + 1))] [blk d25 70 [.slice A96 n97 c98, .slice Wb358 m2359 wc2360, .int .i64 lf3362, .bool dn3363], row 5 1 (.slice A96 n97 c98) n97 (nums .u8 ss2357), row 51 2 (.slice Wb358 m2359 wc2360) m2359 (chV ws2361), chd .u8 ws2361, blk w2356 72 [pt d25], row 23 1 (.slice A9377 n9378 c9379) n9378 (rowsV zs380), rws .u8 zs380, vw As (txV l), vws (txB l), vws (txY l), vws (txK l), vws (txQ l)] (by kernel_rfl) (by kernel_rfl) ?_ ⟨(i + 1), ss2357, Wb358, m2359, wc2360, ws2361, lf3362, dn3363, w2356, A9377, n9378, c9379, zs380, (by omega), (by assumption), hp365, (by assumption), (by assumption), (by assumption), (by omega), (by assumption), (by assumption), (by assumption), (fun h => hp371 (by exact h)), (by assumption), (by assumption), (by exact at_start (by assumption) (by assumption)), (by assumption), (by assumption), (by assumption), (by exact seen8 (by assumption) (by assumption) (by assumption)), (fun h => hp386 (by exact h)), rfl, (by rfl), (by rfl)⟩
                  show ((12 - (i + 1)).toNat : Nat) < ((12 - i).toNat : Nat)
                  omega
            · skip
              refine RunR.enveq [(0, .slice As l.length cs), (3, pt d25), (4, pt wv), (6, .slice Aw nw cw), (7, .int .i64 i), (8, pt b102), (9, .slice La103 lm104 lc105), (10, .int .i64 e117), (75, .bool true)] (by rw [decide_eq_false h203]; try rfl) ?_
              refine RunR.sl hU [] 3 6 [0, 3, 4, 6, 7, 8, 9, 10, 75, 78] [(0, .slice As l.length cs), (3, pt d25), (4, pt wv), (6, .slice Aw nw cw), (7, .int .i64 i), (8, pt b102), (9, .slice La103 lm104 lc105), (10, .int .i64 e117), (75, .bool true), (78, .bool (!decide (e117 = 11)))] 3 ?_
              refine RunR.ev [0, 3, 4, 6, 7, 8, 9, 10, 75, 78] [(0, .slice As l.length cs), (3, pt d25), (4, pt wv), (6, .slice Aw nw cw), (7, .int .i64 i), (8, pt b102), (9, .slice La103 lm104 lc105), (10, .int .i64 e117), (75, .bool true), (78, .bool (!decide (e117 = 11)))] ?_
              have hk388 : (e117 = 11) := by exact (at_11 (at_view hp125 hwn hcl hp115 hsll (by assumption) hz0 (by assumption) (by assumption)) (by assumption)).1
              refine RunR.enveq [(0, .slice As l.length cs), (3, pt d25), (4, pt wv), (6, .slice Aw nw cw), (7, .int .i64 i), (8, pt b102), (9, .slice La103 lm104 lc105), (10, .int .i64 e117), (75, .bool true), (78, .bool false)] (by rw [decide_eq_true hk388]; try rfl) ?_
              refine RunR.sl hU [] 1 7 [0, 3, 4, 6, 7, 8, 9, 10, 75, 78, 79] [(0, .slice As l.length cs), (3, pt d25), (4, pt wv), (6, .slice Aw nw cw), (7, .int .i64 i), (8, pt b102), (9, .slice La103 lm104 lc105), (10, .int .i64 e117), (75, .bool true), (78, .bool false), (79, pt d25)] 1 ?_
              refine RunR.st (some 80) (.call { callee := .value (.func 22), args := #[.tmp 79], argTypes := #[30] }) (Step.cn 22 [pt d25] [blk d25 70 [.slice A96 n97 c98, .slice Wb119 m2120 wc2121, .int .i64 lf3123, .bool dn3124]] [blk wv 72 [pt d25], row 5 1 (.slice A96 n97 c98) n97 (nums .u8 ss2118), row 51 2 (.slice Wb119 m2120 wc2121) m2120 (chV ws2122), chd .u8 ws2122, row 51 2 (.slice La103 lm104 lc105) lm104 (chV ls106), chd .u8 ls106, blk b102 26 [.slice bA72 bl74.length bc73, .slice yA75 yl77.length yc76, .int .i64 ff78, .slice kA79 kb81.length kc80, .int .i64 gg82, .slice qA83 qb85.length qc84], row 23 1 (.slice Aw nw cw) nw (rowsV xw), rws .u8 xw, vw As (txV l), vws (txB l), vws (txY l), vws (txK l), vws (txQ l)] (d_Down_spec d25 A96 n97 c98 Wb119 m2120 wc2121 lf3123 dn3124) [1] ?_)
              rintro _ _ ⟨rfl, rfl⟩
              refine RunR.sl hU [] 3 11 [0, 3, 4, 6, 7, 8, 9, 10, 83] [(0, .slice As l.length cs), (3, pt d25), (4, pt wv), (6, .slice Aw nw cw), (7, .int .i64 i), (8, pt b102), (9, .slice La103 lm104 lc105), (10, .int .i64 e117), (83, .bool (!dn3124))] 3 ?_
              refine RunR.ev [0, 3, 4, 6, 7, 8, 9, 10, 83] [(0, .slice As l.length cs), (3, pt d25), (4, pt wv), (6, .slice Aw nw cw), (7, .int .i64 i), (8, pt b102), (9, .slice La103 lm104 lc105), (10, .int .i64 e117), (83, .bool (!dn3124))] ?_
              have hk389 : dn3124 = true := by exact (at_11 (at_view hp125 hwn hcl hp115 hsll (by assumption) hz0 (by assumption) (by assumption)) (by assumption)).2
              refine RunR.enveq [(0, .slice As l.length cs), (3, pt d25), (4, pt wv), (6, .slice Aw nw cw), (7, .int .i64 i), (8, pt b102), (9, .slice La103 lm104 lc105), (10, .int .i64 e117), (83, .bool false)] (by rw [hk389]; try rfl) ?_
              refine RunR.nn ?_
              refine RunC.cond (b := false) (by kernel_rfl) (fun h => by cases h) (fun _ => ?_)
              refine RunC.sr ?_
              refine RunR.sl hU [] 2 2 [0, 3, 4, 6, 7, 8, 10, 84, 85] [(0, .slice As l.length cs), (3, pt d25), (4, pt wv), (6, .slice Aw nw cw), (7, .int .i64 i), (8, pt b102), (10, .int .i64 e117), (84, .slice Aw nw cw), (85, .slice La103 lm104 lc105)] 2 ?_
              refine RunR.st (some 86) (.call { callee := .value (.func 23), args := #[.tmp 84, .tmp 85], argTypes := #[39, 28] }) (Step.cl 23 [.slice Aw nw cw, .slice La103 lm104 lc105] [rws .u8 xw] [vw Aw (rowsV xw), vw La103 (chV ls106), vws (chL ls106)] [blk d25 70 [.slice A96 n97 c98, .slice Wb119 m2120 wc2121, .int .i64 lf3123, .bool dn3124], blk wv 72 [pt d25], row 5 1 (.slice A96 n97 c98) n97 (nums .u8 ss2118), row 51 2 (.slice Wb119 m2120 wc2121) m2120 (chV ws2122), chd .u8 ws2122, row 51 2 (.slice La103 lm104 lc105) lm104 (chV ls106), chd .u8 ls106, blk b102 26 [.slice bA72 bl74.length bc73, .slice yA75 yl77.length yc76, .int .i64 ff78, .slice kA79 kb81.length kc80, .int .i64 gg82, .slice qA83 qb85.length qc84], row 23 1 (.slice Aw nw cw) nw (rowsV xw), vw As (txV l), vws (txB l), vws (txY l), vws (txK l), vws (txQ l)] (wr_Done2_spec Aw nw cw xw La103 lm104 lc105 ls106 (by assumption) (by assumption) (by assumption) (by omega) (fun h => hAw (by exact h)) (by assumption) (by omega) (by assumption) (by exact at_mok (by assumption) hnw)) [9] ((((Lend.nil _).ofChd 6 (by kernel_rfl)).tells 5 (row 51 2 (.slice La103 lm104 lc105) lm104 (chV ls106)) La103 (chV ls106) (by kernel_rfl) (tells_row _ _ _ _ _ _)).tells 8 (row 23 1 (.slice Aw nw cw) nw (rowsV xw)) Aw (rowsV xw) (by kernel_rfl) (tells_row _ _ _ _ _ _)) ?_)
              rintro _ _ ⟨A9390, n9391, c9392, zs393, rfl, rfl, hp394, hp395, hp396, hp397, hp398, hp399, hp400⟩
              have hq401a := (at_view hp125 hwn hcl hp115 hsll (by assumption) hz0 (by assumption) (by assumption))
              refine RunR.sl hU [] 1 4 [0, 3, 4, 6, 7, 8, 10, 11] [(0, .slice As l.length cs), (3, pt d25), (4, pt wv), (6, .slice Aw nw cw), (7, .int .i64 i), (8, pt b102), (10, .int .i64 e117), (11, .slice A9390 n9391 c9392)] 1 ?_
              refine RunR.nn ?_
              refine RunC.seq ?_
              refine RunC.sr ?_
              refine RunR.sl hU [] 3 3 [0, 3, 4, 6, 7, 8, 10, 11, 89] [(0, .slice As l.length cs), (3, pt d25), (4, pt wv), (6, .slice Aw nw cw), (7, .int .i64 i), (8, pt b102), (10, .int .i64 e117), (11, .slice A9390 n9391 c9392), (89, .bool (decide (e117 = 0)))] 3 ?_
              refine RunR.ev [0, 3, 4, 6, 7, 8, 10, 11, 89] [(0, .slice As l.length cs), (3, pt d25), (4, pt wv), (6, .slice Aw nw cw), (7, .int .i64 i), (8, pt b102), (10, .int .i64 e117), (11, .slice A9390 n9391 c9392), (89, .bool (decide (e117 = 0)))] ?_
              have hk402 : ¬ (e117 = 0) := by exact h203
              refine RunR.enveq [(0, .slice As l.length cs), (3, pt d25), (4, pt wv), (6, .slice Aw nw cw), (7, .int .i64 i), (8, pt b102), (10, .int .i64 e117), (11, .slice A9390 n9391 c9392), (89, .bool false)] (by rw [decide_eq_false hk402]; try rfl) ?_
              refine RunR.sl hU [] 6 9 [0, 3, 4, 6, 7, 8, 10, 11, 95] [(0, .slice As l.length cs), (3, pt d25), (4, pt wv), (6, .slice Aw nw cw), (7, .int .i64 i), (8, pt b102), (10, .int .i64 e117), (11, .slice A9390 n9391 c9392), (95, .bool false)] 1 ?_
              refine RunR.nn ?_
              refine RunC.cond (b := false) (by kernel_rfl) (fun h => by cases h) (fun _ => ?_)
              refine RunC.ksr ?_
              refine RunR.sl hU [] 2 2 [0, 3, 4, 6, 7, 8, 10, 11, 96, 97] [(0, .slice As l.length cs), (3, pt d25), (4, pt wv), (6, .slice Aw nw cw), (7, .int .i64 i), (8, pt b102), (10, .int .i64 e117), (11, .slice A9390 n9391 c9392), (96, pt d25), (97, .pointer (some ⟨b102, 3, none⟩))] 2 ?_
              refine RunR.st (some 98) (.load 24 (.tmp 97)) (Step.load_blk hU 9 b102 (3) 26 [.slice bA72 bl74.length bc73, .slice yA75 yl77.length yc76, .int .i64 ff78, .slice kA79 kb81.length kc80, .int .i64 gg82, .slice qA83 qb85.length qc84] (.slice kA79 kb81.length kc80) (by kernel_rfl) (by kernel_rfl) (by kernel_rfl) (by kernel_rfl) ?_)
              refine RunR.st (some 99) (.call { callee := .value (.func 21), args := #[.tmp 96, .tmp 98], argTypes := #[30, 24] }) (Step.cl 21 [pt d25, .slice kA79 kb81.length kc80] [blk d25 70 [.slice A96 n97 c98, .slice Wb119 m2120 wc2121, .int .i64 lf3123, .bool dn3124], row 5 1 (.slice A96 n97 c98) n97 (nums .u8 ss2118), row 51 2 (.slice Wb119 m2120 wc2121) m2120 (chV ws2122), chd .u8 ws2122] [vw kA79 (bls kb81)] [row 23 1 (.slice A9390 n9391 c9392) n9391 (rowsV zs393), rws .u8 (xw ++ zs393), blk wv 72 [pt d25], row 51 2 (.slice La103 lm104 lc105) lm104 (chV ls106), chd .u8 ls106, blk b102 26 [.slice bA72 bl74.length bc73, .slice yA75 yl77.length yc76, .int .i64 ff78, .slice kA79 kb81.length kc80, .int .i64 gg82, .slice qA83 qb85.length qc84], row 23 1 (.slice Aw nw cw) nw (rowsV xw), vw As (txV l), vws (txB l), vws (txY l), vws (txK l), vws (txQ l)] (d_Crash_spec d25 A96 n97 c98 ss2118 Wb119 m2120 wc2121 ws2122 lf3123 dn3124 kA79 kc80 kb81 kb81.length hp126 (by assumption) (by assumption) (fun h => hp13 (by exact h)) (by assumption) (by assumption) (by assumption) (by omega) (by assumption) (by assumption) (fun h => hp132 (by exact h)) (by omega) (by rfl)) [2, 3, 3, 3] ((Lend.nil _).tells 10 (vws (txK l)) kA79 (bls kb81) (by kernel_rfl) (tells_txK hg86)) ?_)
              rintro _ _ ⟨ss2403, rfl, rfl, hp404, hp405, hp406⟩
              refine RunR.nx ?_
              refine RunR.sl hU [] 2 2 [0, 3, 4, 6, 7, 8, 10, 11, 100, 101] [(0, .slice As l.length cs), (3, pt d25), (4, pt wv), (6, .slice Aw nw cw), (7, .int .i64 i), (8, pt b102), (10, .int .i64 e117), (11, .slice A9390 n9391 c9392), (100, pt d25), (101, .pointer (some ⟨b102, 4, none⟩))] 2 ?_
              refine RunR.st (some 102) (.load 3 (.tmp 101)) (Step.load_blk hU 9 b102 (4) 26 [.slice bA72 bl74.length bc73, .slice yA75 yl77.length yc76, .int .i64 ff78, .slice kA79 kb81.length kc80, .int .i64 gg82, .slice qA83 qb85.length qc84] (.int .i64 gg82) (by kernel_rfl) (by kernel_rfl) (by kernel_rfl) (by kernel_rfl) ?_)
              refine RunR.st (some 103) (.call { callee := .value (.func 20), args := #[.tmp 100, .tmp 102], argTypes := #[30, 3] }) (Step.cn 20 [pt d25, .int .i64 gg82] [blk d25 70 [.slice A96 n97 c98, .slice none 0 0, .int .i64 0, .bool false]] [row 5 1 (.slice A96 n97 c98) n97 (nums .u8 ss2403), row 51 2 (.slice none 0 0) 0 (chV ([] : List Ch)), chd .u8 ([] : List Ch), row 23 1 (.slice A9390 n9391 c9392) n9391 (rowsV zs393), rws .u8 (xw ++ zs393), blk wv 72 [pt d25], row 51 2 (.slice La103 lm104 lc105) lm104 (chV ls106), chd .u8 ls106, blk b102 26 [.slice bA72 bl74.length bc73, .slice yA75 yl77.length yc76, .int .i64 ff78, .slice kA79 kb81.length kc80, .int .i64 gg82, .slice qA83 qb85.length qc84], row 23 1 (.slice Aw nw cw) nw (rowsV xw), vw As (txV l), vws (txB l), vws (txY l), vws (txK l), vws (txQ l)] (d_Arm_spec d25 A96 n97 c98 none 0 0 0 false gg82 (by assumption)) [0] ?_)
              rintro _ _ ⟨lf2407, rfl, rfl, hp408, hp409⟩
              refine RunR.nx ?_
              refine RunR.sl hU [] 1 1 [0, 3, 4, 6, 7, 8, 10, 11, 104] [(0, .slice As l.length cs), (3, pt d25), (4, pt wv), (6, .slice Aw nw cw), (7, .int .i64 i), (8, pt b102), (10, .int .i64 e117), (11, .slice A9390 n9391 c9392), (104, pt d25)] 1 ?_
              refine RunR.st (some 105) (.call { callee := .value (.func 14), args := #[.tmp 104], argTypes := #[30] }) (Step.cn 14 [pt d25] [blk d25 70 [.slice A96 n97 c98, .slice none 0 0, .int .i64 lf2407, .bool false], row 5 1 (.slice A96 n97 c98) n97 (nums .u8 ss2403), row 51 2 (.slice none 0 0) 0 (chV ([] : List Ch)), chd .u8 ([] : List Ch)] [row 23 1 (.slice A9390 n9391 c9392) n9391 (rowsV zs393), rws .u8 (xw ++ zs393), blk wv 72 [pt d25], row 51 2 (.slice La103 lm104 lc105) lm104 (chV ls106), chd .u8 ls106, blk b102 26 [.slice bA72 bl74.length bc73, .slice yA75 yl77.length yc76, .int .i64 ff78, .slice kA79 kb81.length kc80, .int .i64 gg82, .slice qA83 qb85.length qc84], row 23 1 (.slice Aw nw cw) nw (rowsV xw), vw As (txV l), vws (txB l), vws (txY l), vws (txK l), vws (txQ l)] (wl_Open_spec d25 A96 n97 c98 ss2403 none 0 0 ([] : List Ch) lf2407 false hp405 (by assumption) (by assumption) (fun h => hp13 (by exact h)) (by assumption) (by assumption) (by rfl) (by omega) (by exact ChOK.nil _) (by exact WOK.nil _) (fun h => absurd h (by decide)) (by assumption)) [0, 0, 0, 0] ?_)
              rintro _ _ (⟨rfl, rfl, hp410⟩ | ⟨e411, ss2412, Wb413, m2414, wc2415, ws2416, lf3417, dn3418, rfl, rfl, hp419, hp420, hp421, hp422, hp423, hp424, hp425, hp426, hp427, hp428, hp429⟩ | ⟨w2430, ss2431, Wb432, m2433, wc2434, ws2435, lf3436, dn3437, rfl, rfl, hp438, hp439, hp440, hp441, hp442, hp443, hp444, hp445, hp446, hp447⟩)
              · skip
                first | (have hq448f := open_calm hp410 (by first | exact calm0 | assumption) (by assumption) (WOK.dat (by first | assumption | exact WOK.nil _)) (by omega); obtain ⟨hq448a, hq448b, hq448c, hq448d, hq448e⟩ := hq448f; have hq448g := congrArg List.length hq448c; simp only [dat_len, List.length_nil] at hq448g) | skip
                exfalso; omega
              · skip
                first | (have hq449f := open_calm hp419 (by first | exact calm0 | assumption) (by assumption) (WOK.dat (by first | assumption | exact WOK.nil _)) (by omega); obtain ⟨hq449a, hq449b, hq449c, hq449d, hq449e⟩ := hq449f; have hq449g := congrArg List.length hq449c; simp only [dat_len, List.length_nil] at hq449g) | skip
                refine RunR.nx ?_
                refine RunR.sl hU [] 2 2 [0, 3, 4, 6, 7, 10, 11, 106, 107] [(0, .slice As l.length cs), (3, pt d25), (4, pt wv), (6, .slice Aw nw cw), (7, .int .i64 i), (10, .int .i64 e117), (11, .slice A9390 n9391 c9392), (106, pt d25), (107, .pointer (some ⟨b102, 5, none⟩))] 2 ?_
                refine RunR.st (some 108) (.load 24 (.tmp 107)) (Step.load_blk hU 9 b102 (5) 26 [.slice bA72 bl74.length bc73, .slice yA75 yl77.length yc76, .int .i64 ff78, .slice kA79 kb81.length kc80, .int .i64 gg82, .slice qA83 qb85.length qc84] (.slice qA83 qb85.length qc84) (by kernel_rfl) (by kernel_rfl) (by kernel_rfl) (by kernel_rfl) ?_)
                refine RunR.st (some 109) (.call { callee := .value (.func 21), args := #[.tmp 106, .tmp 108], argTypes := #[30, 24] }) (Step.cl 21 [pt d25, .slice qA83 qb85.length qc84] [blk d25 70 [.slice A96 n97 c98, .slice Wb413 m2414 wc2415, .int .i64 lf3417, .bool dn3418], row 5 1 (.slice A96 n97 c98) n97 (nums .u8 ss2412), row 51 2 (.slice Wb413 m2414 wc2415) m2414 (chV ws2416), chd .u8 ws2416] [vw qA83 (bls qb85)] [row 23 1 (.slice A9390 n9391 c9392) n9391 (rowsV zs393), rws .u8 (xw ++ zs393), blk wv 72 [pt d25], row 51 2 (.slice La103 lm104 lc105) lm104 (chV ls106), chd .u8 ls106, blk b102 26 [.slice bA72 bl74.length bc73, .slice yA75 yl77.length yc76, .int .i64 ff78, .slice kA79 kb81.length kc80, .int .i64 gg82, .slice qA83 qb85.length qc84], row 23 1 (.slice Aw nw cw) nw (rowsV xw), vw As (txV l), vws (txB l), vws (txY l), vws (txK l), vws (txQ l)] (d_Crash_spec d25 A96 n97 c98 ss2412 Wb413 m2414 wc2415 ws2416 lf3417 dn3418 qA83 qc84 qb85 qb85.length hp420 (by assumption) (by assumption) (fun h => hp13 (by exact h)) (by assumption) (by assumption) (by assumption) (by omega) (by assumption) (by assumption) (fun h => hp426 (by exact h)) (by omega) (by rfl)) [0, 0, 0, 0] ((Lend.nil _).tells 11 (vws (txQ l)) qA83 (bls qb85) (by kernel_rfl) (tells_txQ hg86)) ?_)
                rintro _ _ ⟨ss2450, rfl, rfl, hp451, hp452, hp453⟩
                refine RunR.nx ?_
                refine RunR.sl hU [] 1 1 [0, 3, 4, 6, 7, 10, 11, 111] [(0, .slice As l.length cs), (3, pt d25), (4, pt wv), (6, .slice Aw nw cw), (7, .int .i64 i), (10, .int .i64 e117), (11, .slice A9390 n9391 c9392), (111, pt d25)] 1 ?_
                refine RunR.st (some 112) (.call { callee := .value (.func 14), args := #[.tmp 111], argTypes := #[30] }) (Step.cn 14 [pt d25] [blk d25 70 [.slice A96 n97 c98, .slice none 0 0, .int .i64 0, .bool false], row 5 1 (.slice A96 n97 c98) n97 (nums .u8 ss2450), row 51 2 (.slice none 0 0) 0 (chV ([] : List Ch)), chd .u8 ([] : List Ch)] [row 23 1 (.slice A9390 n9391 c9392) n9391 (rowsV zs393), rws .u8 (xw ++ zs393), blk wv 72 [pt d25], row 51 2 (.slice La103 lm104 lc105) lm104 (chV ls106), chd .u8 ls106, blk b102 26 [.slice bA72 bl74.length bc73, .slice yA75 yl77.length yc76, .int .i64 ff78, .slice kA79 kb81.length kc80, .int .i64 gg82, .slice qA83 qb85.length qc84], row 23 1 (.slice Aw nw cw) nw (rowsV xw), vw As (txV l), vws (txB l), vws (txY l), vws (txK l), vws (txQ l)] (wl_Open_spec d25 A96 n97 c98 ss2450 none 0 0 ([] : List Ch) 0 false hp452 (by assumption) (by assumption) (fun h => hp13 (by exact h)) (by assumption) (by assumption) (by rfl) (by omega) (by exact ChOK.nil _) (by exact WOK.nil _) (fun h => absurd h (by decide)) (by omega)) [0, 0, 0, 0] ?_)
                rintro _ _ (⟨rfl, rfl, hp454⟩ | ⟨e455, ss2456, Wb457, m2458, wc2459, ws2460, lf3461, dn3462, rfl, rfl, hp463, hp464, hp465, hp466, hp467, hp468, hp469, hp470, hp471, hp472, hp473⟩ | ⟨w2474, ss2475, Wb476, m2477, wc2478, ws2479, lf3480, dn3481, rfl, rfl, hp482, hp483, hp484, hp485, hp486, hp487, hp488, hp489, hp490, hp491⟩)
                · skip
                  first | (have hq492f := open_calm hp454 (by first | exact calm0 | assumption) (by assumption) (WOK.dat (by first | assumption | exact WOK.nil _)) (by omega); obtain ⟨hq492a, hq492b, hq492c, hq492d, hq492e⟩ := hq492f; have hq492g := congrArg List.length hq492c; simp only [dat_len, List.length_nil] at hq492g) | skip
                  exfalso; omega
                · skip
                  first | (have hq493f := open_calm hp463 (by first | exact calm0 | assumption) (by assumption) (WOK.dat (by first | assumption | exact WOK.nil _)) (by omega); obtain ⟨hq493a, hq493b, hq493c, hq493d, hq493e⟩ := hq493f; have hq493g := congrArg List.length hq493c; simp only [dat_len, List.length_nil] at hq493g) | skip
                  exfalso; omega
                · skip
                  first | (have hq494f := open_calm hp482 (by first | exact calm0 | assumption) (by assumption) (WOK.dat (by first | assumption | exact WOK.nil _)) (by omega); obtain ⟨hq494a, hq494b, hq494c, hq494d, hq494e⟩ := hq494f; have hq494g := congrArg List.length hq494c; simp only [dat_len, List.length_nil] at hq494g) | skip
                  refine RunR.sl hU [] 5 7 [0, 3, 4, 6, 7, 10, 11, 12, 13] [(0, .slice As l.length cs), (3, pt d25), (4, pt wv), (6, .slice Aw nw cw), (7, .int .i64 i), (10, .int .i64 e117), (11, .slice A9390 n9391 c9392), (12, pt w2474), (13, .int .i64 0)] 5 ?_
                  refine RunR.nn ?_
                  refine RunC.seq ?_
                  refine RunC.sr ?_
                  refine RunR.sl hU [] 6 6 [0, 3, 4, 6, 7, 10, 11, 12, 120] [(0, .slice As l.length cs), (3, pt d25), (4, pt wv), (6, .slice Aw nw cw), (7, .int .i64 i), (10, .int .i64 e117), (11, .slice A9390 n9391 c9392), (12, pt w2474), (120, .bool false)] 6 ?_
                  refine RunR.nn ?_
                  refine RunC.cond (b := false) (by kernel_rfl) (fun h => by cases h) (fun _ => ?_)
                  refine RunC.ksr ?_
                  refine RunR.sl hU [] 2 2 [0, 3, 4, 6, 7, 10, 11] [(0, .slice As l.length cs), (3, pt d25), (4, pt w2474), (6, .slice Aw nw cw), (7, .int .i64 i), (10, .int .i64 e117), (11, .slice A9390 n9391 c9392)] 2 ?_
                  refine RunR.nx ?_
                  refine RunR.sl hU [] 1 1 [0, 3, 4, 6, 7, 10, 11, 122] [(0, .slice As l.length cs), (3, pt d25), (4, pt w2474), (6, .slice Aw nw cw), (7, .int .i64 i), (10, .int .i64 e117), (11, .slice A9390 n9391 c9392), (122, pt w2474)] 1 ?_
                  refine RunR.st (some 123) (.call { callee := .value (.func 18), args := #[.tmp 122], argTypes := #[32] }) (Step.cn 18 [pt w2474] [blk w2474 72 [pt d25], blk d25 70 [.slice A96 n97 c98, .slice Wb476 m2477 wc2478, .int .i64 lf3480, .bool dn3481], row 5 1 (.slice A96 n97 c98) n97 (nums .u8 ss2475), row 51 2 (.slice Wb476 m2477 wc2478) m2477 (chV ws2479), chd .u8 ws2479] [row 23 1 (.slice A9390 n9391 c9392) n9391 (rowsV zs393), rws .u8 (xw ++ zs393), blk wv 72 [pt d25], row 51 2 (.slice La103 lm104 lc105) lm104 (chV ls106), chd .u8 ls106, blk b102 26 [.slice bA72 bl74.length bc73, .slice yA75 yl77.length yc76, .int .i64 ff78, .slice kA79 kb81.length kc80, .int .i64 gg82, .slice qA83 qb85.length qc84], row 23 1 (.slice Aw nw cw) nw (rowsV xw), vw As (txV l), vws (txB l), vws (txY l), vws (txK l), vws (txQ l)] (wl_seen_spec w2474 d25 A96 n97 c98 ss2475 Wb476 m2477 wc2478 ws2479 lf3480 dn3481 hp483 (by assumption) (by assumption) (fun h => hp13 (by exact h)) (by assumption) (by assumption) (by assumption) (by omega) (by assumption) (by assumption) (fun h => hp489 (by exact h))) [0, 0, 0, 0, 0] ?_)
                  rintro _ _ ⟨A9495, n9496, c9497, zs498, rfl, rfl, hp499, hp500, hp501, hp502, hp503, hp504⟩
                  refine RunR.sl hU [] 1 3 [0, 3, 4, 6, 7, 10, 11, 14] [(0, .slice As l.length cs), (3, pt d25), (4, pt w2474), (6, .slice Aw nw cw), (7, .int .i64 i), (10, .int .i64 e117), (11, .slice A9390 n9391 c9392), (14, .slice A9495 n9496 c9497)] 1 ?_
                  refine RunR.nn ?_
                  refine RunC.seq ?_
                  refine RunC.sr ?_
                  refine RunR.sl hU [] 2 2 [0, 3, 4, 6, 7, 10, 14, 124, 125] [(0, .slice As l.length cs), (3, pt d25), (4, pt w2474), (6, .slice Aw nw cw), (7, .int .i64 i), (10, .int .i64 e117), (14, .slice A9495 n9496 c9497), (124, .slice A9495 n9496 c9497), (125, .slice A9390 n9391 c9392)] 2 ?_
                  refine RunR.st (some 126) (.call { callee := .value (.func 17), args := #[.tmp 124, .tmp 125], argTypes := #[39, 39] }) (Step.cl 17 [.slice A9495 n9496 c9497, .slice A9390 n9391 c9392] [] [vw A9495 (rowsV zs498), vws (rowsL .u8 zs498), vw A9390 (rowsV zs393), vws (rowsL .u8 zs393)] [row 23 1 (.slice A9495 n9496 c9497) n9496 (rowsV zs498), rws .u8 zs498, blk w2474 72 [pt d25], blk d25 70 [.slice A96 n97 c98, .slice Wb476 m2477 wc2478, .int .i64 lf3480, .bool dn3481], row 5 1 (.slice A96 n97 c98) n97 (nums .u8 ss2475), row 51 2 (.slice Wb476 m2477 wc2478) m2477 (chV ws2479), chd .u8 ws2479, row 23 1 (.slice A9390 n9391 c9392) n9391 (rowsV zs393), rws .u8 (xw ++ zs393), blk wv 72 [pt d25], row 51 2 (.slice La103 lm104 lc105) lm104 (chV ls106), chd .u8 ls106, blk b102 26 [.slice bA72 bl74.length bc73, .slice yA75 yl77.length yc76, .int .i64 ff78, .slice kA79 kb81.length kc80, .int .i64 gg82, .slice qA83 qb85.length qc84], row 23 1 (.slice Aw nw cw) nw (rowsV xw), vw As (txV l), vws (txB l), vws (txY l), vws (txK l), vws (txQ l)] (wr_Same_spec A9495 n9496 c9497 zs498 A9390 n9391 c9392 zs393 (by assumption) (by assumption) (by assumption) (by assumption) (by assumption) (by assumption)) [] (((((Lend.nil _).ofRwsR (a := xw) 8 (by kernel_rfl)).tells 7 (row 23 1 (.slice A9390 n9391 c9392) n9391 (rowsV zs393)) A9390 (rowsV zs393) (by kernel_rfl) (tells_row _ _ _ _ _ _)).ofRws 1 (by kernel_rfl)).tells 0 (row 23 1 (.slice A9495 n9496 c9497) n9496 (rowsV zs498)) A9495 (rowsV zs498) (by kernel_rfl) (tells_row _ _ _ _ _ _)) ?_)
                  rintro _ _ ⟨rfl, rfl⟩
                  refine RunR.sl hU [] 2 5 [0, 3, 4, 6, 7, 10, 14, 128] [(0, .slice As l.length cs), (3, pt d25), (4, pt w2474), (6, .slice Aw nw cw), (7, .int .i64 i), (10, .int .i64 e117), (14, .slice A9495 n9496 c9497), (128, .bool (!decide (rb zs498 = rb zs393)))] 2 ?_
                  refine RunR.ev [0, 3, 4, 6, 7, 10, 14, 128] [(0, .slice As l.length cs), (3, pt d25), (4, pt w2474), (6, .slice Aw nw cw), (7, .int .i64 i), (10, .int .i64 e117), (14, .slice A9495 n9496 c9497), (128, .bool (!decide (rb zs498 = rb zs393)))] ?_
                  by_cases h505 : rb zs498 = rb zs393
                  · skip
                    refine RunR.enveq [(0, .slice As l.length cs), (3, pt d25), (4, pt w2474), (6, .slice Aw nw cw), (7, .int .i64 i), (10, .int .i64 e117), (14, .slice A9495 n9496 c9497), (128, .bool false)] (by rw [decide_eq_true h505]; try rfl) ?_
                    refine RunR.sl hU [] 9 14 [0, 3, 4, 6, 7, 14, 137] [(0, .slice As l.length cs), (3, pt d25), (4, pt w2474), (6, .slice Aw nw cw), (7, .int .i64 i), (14, .slice A9495 n9496 c9497), (137, .bool false)] 1 ?_
                    refine RunR.nn ?_
                    refine RunC.cond (b := false) (by kernel_rfl) (fun h => by cases h) (fun _ => ?_)
                    refine RunC.ksr ?_
                    refine RunR.sl hU [] 2 2 [0, 3, 4, 6, 7] [(0, .slice As l.length cs), (3, pt d25), (4, pt w2474), (6, .slice A9495 n9496 c9497), (7, .int .i64 i)] 2 ?_
                    refine RunR.nn ?_
                    refine RunC.exit ?_
                    refine kseq_e ?_
                    refine kblock_e ?_
                    refine kseq_n ?_
                    refine RunC.region ?_
                    refine RunR.sil hU [1] 3 3 [0, 3, 4, 6, 7] [(0, .slice As l.length cs), (3, pt d25), (4, pt w2474), (6, .slice A9495 n9496 c9497), (7, .int .i64 (i + 1))] ((True) ∧ (-9223372036854775808 ≤ (i + 1) ∧ (i + 1) < 9223372036854775808) ∧ (True) ∧ True) rfl (by kernel_rfl) ⟨trivial, (by omega), trivial, trivial⟩ ?_
                    refine RunR.dn ?_
                    refine kloop_n _ [0, 3, 4, 6, 7] [3, 3, 3, 3, 2, 0, 0, 7, 7, 7, 7, 7] [(0, .slice As l.length cs), (3, pt d25), (4, pt w2474), (6, .slice A9495 n9496 c9497), (7, .int .i64 (i + 1))] [blk d25 70 [.slice A96 n97 c98, .slice Wb476 m2477 wc2478, .int .i64 lf3480, .bool dn3481], row 5 1 (.slice A96 n97 c98) n97 (nums .u8 ss2475), row 51 2 (.slice Wb476 m2477 wc2478) m2477 (chV ws2479), chd .u8 ws2479, blk w2474 72 [pt d25], row 23 1 (.slice A9495 n9496 c9497) n9496 (rowsV zs498), rws .u8 zs498, vw As (txV l), vws (txB l), vws (txY l), vws (txK l), vws (txQ l)] (by kernel_rfl) (by kernel_rfl) ?_ ⟨(i + 1), ss2475, Wb476, m2477, wc2478, ws2479, lf3480, dn3481, w2474, A9495, n9496, c9497, zs498, (by omega), (by assumption), hp483, (by assumption), (by assumption), (by assumption), (by omega), (by assumption), (by assumption), (by assumption), (fun h => hp489 (by exact h)), (by assumption), (by assumption), (by exact at_start (by assumption) (by assumption)), (by assumption), (by assumption), (by assumption), (by exact seen8 (by assumption) (by assumption) (by assumption)), (fun h => hp504 (by exact h)), rfl, (by rfl), (by rfl)⟩
                    show ((12 - (i + 1)).toNat : Nat) < ((12 - i).toNat : Nat)
                    omega
                  · skip
                    refine RunR.enveq [(0, .slice As l.length cs), (3, pt d25), (4, pt w2474), (6, .slice Aw nw cw), (7, .int .i64 i), (10, .int .i64 e117), (14, .slice A9495 n9496 c9497), (128, .bool true)] (by rw [decide_eq_false h505]; try rfl) ?_
                    refine RunR.sl hU [] 3 8 [0, 3, 4, 6, 7, 14, 128, 131] [(0, .slice As l.length cs), (3, pt d25), (4, pt w2474), (6, .slice Aw nw cw), (7, .int .i64 i), (14, .slice A9495 n9496 c9497), (128, .bool true), (131, .bool (decide (e117 = 0)))] 3 ?_
                    refine RunR.ev [0, 3, 4, 6, 7, 14, 128, 131] [(0, .slice As l.length cs), (3, pt d25), (4, pt w2474), (6, .slice Aw nw cw), (7, .int .i64 i), (14, .slice A9495 n9496 c9497), (128, .bool true), (131, .bool (decide (e117 = 0)))] ?_
                    have hk506 : ¬ (e117 = 0) := by exact h203
                    refine RunR.enveq [(0, .slice As l.length cs), (3, pt d25), (4, pt w2474), (6, .slice Aw nw cw), (7, .int .i64 i), (14, .slice A9495 n9496 c9497), (128, .bool true), (131, .bool false)] (by rw [decide_eq_false hk506]; try rfl) ?_
                    refine RunR.sl hU [] 2 10 [0, 3, 4, 6, 7, 14, 128, 131, 132, 133] [(0, .slice As l.length cs), (3, pt d25), (4, pt w2474), (6, .slice Aw nw cw), (7, .int .i64 i), (14, .slice A9495 n9496 c9497), (128, .bool true), (131, .bool false), (132, .slice A9495 n9496 c9497), (133, .slice Aw nw cw)] 2 ?_
                    refine RunR.st (some 134) (.call { callee := .value (.func 17), args := #[.tmp 132, .tmp 133], argTypes := #[39, 39] }) (Step.cl 17 [.slice A9495 n9496 c9497, .slice Aw nw cw] [] [vw A9495 (rowsV zs498), vws (rowsL .u8 zs498), vw Aw (rowsV xw), vws (rowsL .u8 xw)] [row 23 1 (.slice A9495 n9496 c9497) n9496 (rowsV zs498), rws .u8 zs498, blk w2474 72 [pt d25], blk d25 70 [.slice A96 n97 c98, .slice Wb476 m2477 wc2478, .int .i64 lf3480, .bool dn3481], row 5 1 (.slice A96 n97 c98) n97 (nums .u8 ss2475), row 51 2 (.slice Wb476 m2477 wc2478) m2477 (chV ws2479), chd .u8 ws2479, row 23 1 (.slice A9390 n9391 c9392) n9391 (rowsV zs393), rws .u8 (xw ++ zs393), blk wv 72 [pt d25], row 51 2 (.slice La103 lm104 lc105) lm104 (chV ls106), chd .u8 ls106, blk b102 26 [.slice bA72 bl74.length bc73, .slice yA75 yl77.length yc76, .int .i64 ff78, .slice kA79 kb81.length kc80, .int .i64 gg82, .slice qA83 qb85.length qc84], row 23 1 (.slice Aw nw cw) nw (rowsV xw), vw As (txV l), vws (txB l), vws (txY l), vws (txK l), vws (txQ l)] (wr_Same_spec A9495 n9496 c9497 zs498 Aw nw cw xw (by assumption) (by assumption) (by assumption) (by assumption) (by assumption) (by omega)) [] (((((Lend.nil _).ofRwsL (b := zs393) 8 (by kernel_rfl)).tells 13 (row 23 1 (.slice Aw nw cw) nw (rowsV xw)) Aw (rowsV xw) (by kernel_rfl) (tells_row _ _ _ _ _ _)).ofRws 1 (by kernel_rfl)).tells 0 (row 23 1 (.slice A9495 n9496 c9497) n9496 (rowsV zs498)) A9495 (rowsV zs498) (by kernel_rfl) (tells_row _ _ _ _ _ _)) ?_)
                    rintro _ _ ⟨rfl, rfl⟩
                    refine RunR.sl hU [] 3 14 [0, 3, 4, 6, 7, 14, 137] [(0, .slice As l.length cs), (3, pt d25), (4, pt w2474), (6, .slice Aw nw cw), (7, .int .i64 i), (14, .slice A9495 n9496 c9497), (137, .bool (!decide (rb zs498 = rb xw)))] 3 ?_
                    refine RunR.ev [0, 3, 4, 6, 7, 14, 137] [(0, .slice As l.length cs), (3, pt d25), (4, pt w2474), (6, .slice Aw nw cw), (7, .int .i64 i), (14, .slice A9495 n9496 c9497), (137, .bool (!decide (rb zs498 = rb xw)))] ?_
                    have hk507 : (rb zs498 = rb xw) := by have hd_ := hp394; exact at_old (at_end (by assumption) (by assumption) (by assumption) (by assumption) (by assumption) (by assumption) (by assumption) (le_and (by assumption)) (by assumption)) (by assumption) hsw hd_ (by assumption)
                    refine RunR.enveq [(0, .slice As l.length cs), (3, pt d25), (4, pt w2474), (6, .slice Aw nw cw), (7, .int .i64 i), (14, .slice A9495 n9496 c9497), (137, .bool false)] (by rw [decide_eq_true hk507]; try rfl) ?_
                    refine RunR.nn ?_
                    refine RunC.cond (b := false) (by kernel_rfl) (fun h => by cases h) (fun _ => ?_)
                    refine RunC.ksr ?_
                    refine RunR.sl hU [] 2 2 [0, 3, 4, 6, 7] [(0, .slice As l.length cs), (3, pt d25), (4, pt w2474), (6, .slice A9495 n9496 c9497), (7, .int .i64 i)] 2 ?_
                    refine RunR.nn ?_
                    refine RunC.exit ?_
                    refine kseq_e ?_
                    refine kblock_e ?_
                    refine kseq_n ?_
                    refine RunC.region ?_
                    refine RunR.sil hU [1] 3 3 [0, 3, 4, 6, 7] [(0, .slice As l.length cs), (3, pt d25), (4, pt w2474), (6, .slice A9495 n9496 c9497), (7, .int .i64 (i + 1))] ((True) ∧ (-9223372036854775808 ≤ (i + 1) ∧ (i + 1) < 9223372036854775808) ∧ (True) ∧ True) rfl (by kernel_rfl) ⟨trivial, (by omega), trivial, trivial⟩ ?_
                    refine RunR.dn ?_
                    refine kloop_n _ [0, 3, 4, 6, 7] [3, 3, 3, 3, 2, 0, 0, 7, 7, 7, 7, 7] [(0, .slice As l.length cs), (3, pt d25), (4, pt w2474), (6, .slice A9495 n9496 c9497), (7, .int .i64 (i + 1))] [blk d25 70 [.slice A96 n97 c98, .slice Wb476 m2477 wc2478, .int .i64 lf3480, .bool dn3481], row 5 1 (.slice A96 n97 c98) n97 (nums .u8 ss2475), row 51 2 (.slice Wb476 m2477 wc2478) m2477 (chV ws2479), chd .u8 ws2479, blk w2474 72 [pt d25], row 23 1 (.slice A9495 n9496 c9497) n9496 (rowsV zs498), rws .u8 zs498, vw As (txV l), vws (txB l), vws (txY l), vws (txK l), vws (txQ l)] (by kernel_rfl) (by kernel_rfl) ?_ ⟨(i + 1), ss2475, Wb476, m2477, wc2478, ws2479, lf3480, dn3481, w2474, A9495, n9496, c9497, zs498, (by omega), (by assumption), hp483, (by assumption), (by assumption), (by assumption), (by omega), (by assumption), (by assumption), (by assumption), (fun h => hp489 (by exact h)), (by assumption), (by assumption), (by exact at_start (by assumption) (by assumption)), (by assumption), (by assumption), (by assumption), (by exact seen8 (by assumption) (by assumption) (by assumption)), (fun h => hp504 (by exact h)), rfl, (by rfl), (by rfl)⟩
                    show ((12 - (i + 1)).toNat : Nat) < ((12 - i).toNat : Nat)
                    omega
              · skip
                first | (have hq508f := open_calm hp438 (by first | exact calm0 | assumption) (by assumption) (WOK.dat (by first | assumption | exact WOK.nil _)) (by omega); obtain ⟨hq508a, hq508b, hq508c, hq508d, hq508e⟩ := hq508f; have hq508g := congrArg List.length hq508c; simp only [dat_len, List.length_nil] at hq508g) | skip
                refine RunR.nx ?_
                refine RunR.sl hU [] 2 2 [0, 3, 4, 6, 7, 10, 11, 106, 107] [(0, .slice As l.length cs), (3, pt d25), (4, pt wv), (6, .slice Aw nw cw), (7, .int .i64 i), (10, .int .i64 e117), (11, .slice A9390 n9391 c9392), (106, pt d25), (107, .pointer (some ⟨b102, 5, none⟩))] 2 ?_
                refine RunR.st (some 108) (.load 24 (.tmp 107)) (Step.load_blk hU 10 b102 (5) 26 [.slice bA72 bl74.length bc73, .slice yA75 yl77.length yc76, .int .i64 ff78, .slice kA79 kb81.length kc80, .int .i64 gg82, .slice qA83 qb85.length qc84] (.slice qA83 qb85.length qc84) (by kernel_rfl) (by kernel_rfl) (by kernel_rfl) (by kernel_rfl) ?_)
                refine RunR.st (some 109) (.call { callee := .value (.func 21), args := #[.tmp 106, .tmp 108], argTypes := #[30, 24] }) (Step.cl 21 [pt d25, .slice qA83 qb85.length qc84] [blk d25 70 [.slice A96 n97 c98, .slice Wb432 m2433 wc2434, .int .i64 lf3436, .bool dn3437], row 5 1 (.slice A96 n97 c98) n97 (nums .u8 ss2431), row 51 2 (.slice Wb432 m2433 wc2434) m2433 (chV ws2435), chd .u8 ws2435] [vw qA83 (bls qb85)] [blk w2430 72 [pt d25], row 23 1 (.slice A9390 n9391 c9392) n9391 (rowsV zs393), rws .u8 (xw ++ zs393), blk wv 72 [pt d25], row 51 2 (.slice La103 lm104 lc105) lm104 (chV ls106), chd .u8 ls106, blk b102 26 [.slice bA72 bl74.length bc73, .slice yA75 yl77.length yc76, .int .i64 ff78, .slice kA79 kb81.length kc80, .int .i64 gg82, .slice qA83 qb85.length qc84], row 23 1 (.slice Aw nw cw) nw (rowsV xw), vw As (txV l), vws (txB l), vws (txY l), vws (txK l), vws (txQ l)] (d_Crash_spec d25 A96 n97 c98 ss2431 Wb432 m2433 wc2434 ws2435 lf3436 dn3437 qA83 qc84 qb85 qb85.length hp439 (by assumption) (by assumption) (fun h => hp13 (by exact h)) (by assumption) (by assumption) (by assumption) (by omega) (by assumption) (by assumption) (fun h => hp445 (by exact h)) (by omega) (by rfl)) [1, 1, 1, 1] ((Lend.nil _).tells 12 (vws (txQ l)) qA83 (bls qb85) (by kernel_rfl) (tells_txQ hg86)) ?_)
                rintro _ _ ⟨ss2509, rfl, rfl, hp510, hp511, hp512⟩
                refine RunR.nx ?_
                refine RunR.sl hU [] 1 1 [0, 3, 4, 6, 7, 10, 11, 111] [(0, .slice As l.length cs), (3, pt d25), (4, pt wv), (6, .slice Aw nw cw), (7, .int .i64 i), (10, .int .i64 e117), (11, .slice A9390 n9391 c9392), (111, pt d25)] 1 ?_
                refine RunR.st (some 112) (.call { callee := .value (.func 14), args := #[.tmp 111], argTypes := #[30] }) (Step.cn 14 [pt d25] [blk d25 70 [.slice A96 n97 c98, .slice none 0 0, .int .i64 0, .bool false], row 5 1 (.slice A96 n97 c98) n97 (nums .u8 ss2509), row 51 2 (.slice none 0 0) 0 (chV ([] : List Ch)), chd .u8 ([] : List Ch)] [blk w2430 72 [pt d25], row 23 1 (.slice A9390 n9391 c9392) n9391 (rowsV zs393), rws .u8 (xw ++ zs393), blk wv 72 [pt d25], row 51 2 (.slice La103 lm104 lc105) lm104 (chV ls106), chd .u8 ls106, blk b102 26 [.slice bA72 bl74.length bc73, .slice yA75 yl77.length yc76, .int .i64 ff78, .slice kA79 kb81.length kc80, .int .i64 gg82, .slice qA83 qb85.length qc84], row 23 1 (.slice Aw nw cw) nw (rowsV xw), vw As (txV l), vws (txB l), vws (txY l), vws (txK l), vws (txQ l)] (wl_Open_spec d25 A96 n97 c98 ss2509 none 0 0 ([] : List Ch) 0 false hp511 (by assumption) (by assumption) (fun h => hp13 (by exact h)) (by assumption) (by assumption) (by rfl) (by omega) (by exact ChOK.nil _) (by exact WOK.nil _) (fun h => absurd h (by decide)) (by omega)) [0, 0, 0, 0] ?_)
                rintro _ _ (⟨rfl, rfl, hp513⟩ | ⟨e514, ss2515, Wb516, m2517, wc2518, ws2519, lf3520, dn3521, rfl, rfl, hp522, hp523, hp524, hp525, hp526, hp527, hp528, hp529, hp530, hp531, hp532⟩ | ⟨w2533, ss2534, Wb535, m2536, wc2537, ws2538, lf3539, dn3540, rfl, rfl, hp541, hp542, hp543, hp544, hp545, hp546, hp547, hp548, hp549, hp550⟩)
                · skip
                  first | (have hq551f := open_calm hp513 (by first | exact calm0 | assumption) (by assumption) (WOK.dat (by first | assumption | exact WOK.nil _)) (by omega); obtain ⟨hq551a, hq551b, hq551c, hq551d, hq551e⟩ := hq551f; have hq551g := congrArg List.length hq551c; simp only [dat_len, List.length_nil] at hq551g) | skip
                  exfalso; omega
                · skip
                  first | (have hq552f := open_calm hp522 (by first | exact calm0 | assumption) (by assumption) (WOK.dat (by first | assumption | exact WOK.nil _)) (by omega); obtain ⟨hq552a, hq552b, hq552c, hq552d, hq552e⟩ := hq552f; have hq552g := congrArg List.length hq552c; simp only [dat_len, List.length_nil] at hq552g) | skip
                  exfalso; omega
                · skip
                  first | (have hq553f := open_calm hp541 (by first | exact calm0 | assumption) (by assumption) (WOK.dat (by first | assumption | exact WOK.nil _)) (by omega); obtain ⟨hq553a, hq553b, hq553c, hq553d, hq553e⟩ := hq553f; have hq553g := congrArg List.length hq553c; simp only [dat_len, List.length_nil] at hq553g) | skip
                  refine RunR.sl hU [] 5 7 [0, 3, 4, 6, 7, 10, 11, 12, 13] [(0, .slice As l.length cs), (3, pt d25), (4, pt wv), (6, .slice Aw nw cw), (7, .int .i64 i), (10, .int .i64 e117), (11, .slice A9390 n9391 c9392), (12, pt w2533), (13, .int .i64 0)] 5 ?_
                  refine RunR.nn ?_
                  refine RunC.seq ?_
                  refine RunC.sr ?_
                  refine RunR.sl hU [] 6 6 [0, 3, 4, 6, 7, 10, 11, 12, 120] [(0, .slice As l.length cs), (3, pt d25), (4, pt wv), (6, .slice Aw nw cw), (7, .int .i64 i), (10, .int .i64 e117), (11, .slice A9390 n9391 c9392), (12, pt w2533), (120, .bool false)] 6 ?_
                  refine RunR.nn ?_
                  refine RunC.cond (b := false) (by kernel_rfl) (fun h => by cases h) (fun _ => ?_)
                  refine RunC.ksr ?_
                  refine RunR.sl hU [] 2 2 [0, 3, 4, 6, 7, 10, 11] [(0, .slice As l.length cs), (3, pt d25), (4, pt w2533), (6, .slice Aw nw cw), (7, .int .i64 i), (10, .int .i64 e117), (11, .slice A9390 n9391 c9392)] 2 ?_
                  refine RunR.nx ?_
                  refine RunR.sl hU [] 1 1 [0, 3, 4, 6, 7, 10, 11, 122] [(0, .slice As l.length cs), (3, pt d25), (4, pt w2533), (6, .slice Aw nw cw), (7, .int .i64 i), (10, .int .i64 e117), (11, .slice A9390 n9391 c9392), (122, pt w2533)] 1 ?_
                  refine RunR.st (some 123) (.call { callee := .value (.func 18), args := #[.tmp 122], argTypes := #[32] }) (Step.cn 18 [pt w2533] [blk w2533 72 [pt d25], blk d25 70 [.slice A96 n97 c98, .slice Wb535 m2536 wc2537, .int .i64 lf3539, .bool dn3540], row 5 1 (.slice A96 n97 c98) n97 (nums .u8 ss2534), row 51 2 (.slice Wb535 m2536 wc2537) m2536 (chV ws2538), chd .u8 ws2538] [blk w2430 72 [pt d25], row 23 1 (.slice A9390 n9391 c9392) n9391 (rowsV zs393), rws .u8 (xw ++ zs393), blk wv 72 [pt d25], row 51 2 (.slice La103 lm104 lc105) lm104 (chV ls106), chd .u8 ls106, blk b102 26 [.slice bA72 bl74.length bc73, .slice yA75 yl77.length yc76, .int .i64 ff78, .slice kA79 kb81.length kc80, .int .i64 gg82, .slice qA83 qb85.length qc84], row 23 1 (.slice Aw nw cw) nw (rowsV xw), vw As (txV l), vws (txB l), vws (txY l), vws (txK l), vws (txQ l)] (wl_seen_spec w2533 d25 A96 n97 c98 ss2534 Wb535 m2536 wc2537 ws2538 lf3539 dn3540 hp542 (by assumption) (by assumption) (fun h => hp13 (by exact h)) (by assumption) (by assumption) (by assumption) (by omega) (by assumption) (by assumption) (fun h => hp548 (by exact h))) [0, 0, 0, 0, 0] ?_)
                  rintro _ _ ⟨A9554, n9555, c9556, zs557, rfl, rfl, hp558, hp559, hp560, hp561, hp562, hp563⟩
                  refine RunR.sl hU [] 1 3 [0, 3, 4, 6, 7, 10, 11, 14] [(0, .slice As l.length cs), (3, pt d25), (4, pt w2533), (6, .slice Aw nw cw), (7, .int .i64 i), (10, .int .i64 e117), (11, .slice A9390 n9391 c9392), (14, .slice A9554 n9555 c9556)] 1 ?_
                  refine RunR.nn ?_
                  refine RunC.seq ?_
                  refine RunC.sr ?_
                  refine RunR.sl hU [] 2 2 [0, 3, 4, 6, 7, 10, 14, 124, 125] [(0, .slice As l.length cs), (3, pt d25), (4, pt w2533), (6, .slice Aw nw cw), (7, .int .i64 i), (10, .int .i64 e117), (14, .slice A9554 n9555 c9556), (124, .slice A9554 n9555 c9556), (125, .slice A9390 n9391 c9392)] 2 ?_
                  refine RunR.st (some 126) (.call { callee := .value (.func 17), args := #[.tmp 124, .tmp 125], argTypes := #[39, 39] }) (Step.cl 17 [.slice A9554 n9555 c9556, .slice A9390 n9391 c9392] [] [vw A9554 (rowsV zs557), vws (rowsL .u8 zs557), vw A9390 (rowsV zs393), vws (rowsL .u8 zs393)] [row 23 1 (.slice A9554 n9555 c9556) n9555 (rowsV zs557), rws .u8 zs557, blk w2533 72 [pt d25], blk d25 70 [.slice A96 n97 c98, .slice Wb535 m2536 wc2537, .int .i64 lf3539, .bool dn3540], row 5 1 (.slice A96 n97 c98) n97 (nums .u8 ss2534), row 51 2 (.slice Wb535 m2536 wc2537) m2536 (chV ws2538), chd .u8 ws2538, blk w2430 72 [pt d25], row 23 1 (.slice A9390 n9391 c9392) n9391 (rowsV zs393), rws .u8 (xw ++ zs393), blk wv 72 [pt d25], row 51 2 (.slice La103 lm104 lc105) lm104 (chV ls106), chd .u8 ls106, blk b102 26 [.slice bA72 bl74.length bc73, .slice yA75 yl77.length yc76, .int .i64 ff78, .slice kA79 kb81.length kc80, .int .i64 gg82, .slice qA83 qb85.length qc84], row 23 1 (.slice Aw nw cw) nw (rowsV xw), vw As (txV l), vws (txB l), vws (txY l), vws (txK l), vws (txQ l)] (wr_Same_spec A9554 n9555 c9556 zs557 A9390 n9391 c9392 zs393 (by assumption) (by assumption) (by assumption) (by assumption) (by assumption) (by assumption)) [] (((((Lend.nil _).ofRwsR (a := xw) 9 (by kernel_rfl)).tells 8 (row 23 1 (.slice A9390 n9391 c9392) n9391 (rowsV zs393)) A9390 (rowsV zs393) (by kernel_rfl) (tells_row _ _ _ _ _ _)).ofRws 1 (by kernel_rfl)).tells 0 (row 23 1 (.slice A9554 n9555 c9556) n9555 (rowsV zs557)) A9554 (rowsV zs557) (by kernel_rfl) (tells_row _ _ _ _ _ _)) ?_)
                  rintro _ _ ⟨rfl, rfl⟩
                  refine RunR.sl hU [] 2 5 [0, 3, 4, 6, 7, 10, 14, 128] [(0, .slice As l.length cs), (3, pt d25), (4, pt w2533), (6, .slice Aw nw cw), (7, .int .i64 i), (10, .int .i64 e117), (14, .slice A9554 n9555 c9556), (128, .bool (!decide (rb zs557 = rb zs393)))] 2 ?_
                  refine RunR.ev [0, 3, 4, 6, 7, 10, 14, 128] [(0, .slice As l.length cs), (3, pt d25), (4, pt w2533), (6, .slice Aw nw cw), (7, .int .i64 i), (10, .int .i64 e117), (14, .slice A9554 n9555 c9556), (128, .bool (!decide (rb zs557 = rb zs393)))] ?_
                  by_cases h564 : rb zs557 = rb zs393
                  · skip
                    refine RunR.enveq [(0, .slice As l.length cs), (3, pt d25), (4, pt w2533), (6, .slice Aw nw cw), (7, .int .i64 i), (10, .int .i64 e117), (14, .slice A9554 n9555 c9556), (128, .bool false)] (by rw [decide_eq_true h564]; try rfl) ?_
                    refine RunR.sl hU [] 9 14 [0, 3, 4, 6, 7, 14, 137] [(0, .slice As l.length cs), (3, pt d25), (4, pt w2533), (6, .slice Aw nw cw), (7, .int .i64 i), (14, .slice A9554 n9555 c9556), (137, .bool false)] 1 ?_
                    refine RunR.nn ?_
                    refine RunC.cond (b := false) (by kernel_rfl) (fun h => by cases h) (fun _ => ?_)
                    refine RunC.ksr ?_
                    refine RunR.sl hU [] 2 2 [0, 3, 4, 6, 7] [(0, .slice As l.length cs), (3, pt d25), (4, pt w2533), (6, .slice A9554 n9555 c9556), (7, .int .i64 i)] 2 ?_
                    refine RunR.nn ?_
                    refine RunC.exit ?_
                    refine kseq_e ?_
                    refine kblock_e ?_
                    refine kseq_n ?_
                    refine RunC.region ?_
                    refine RunR.sil hU [1] 3 3 [0, 3, 4, 6, 7] [(0, .slice As l.length cs), (3, pt d25), (4, pt w2533), (6, .slice A9554 n9555 c9556), (7, .int .i64 (i + 1))] ((True) ∧ (-9223372036854775808 ≤ (i + 1) ∧ (i + 1) < 9223372036854775808) ∧ (True) ∧ True) rfl (by kernel_rfl) ⟨trivial, (by omega), trivial, trivial⟩ ?_
                    refine RunR.dn ?_
                    refine kloop_n _ [0, 3, 4, 6, 7] [3, 3, 3, 3, 2, 0, 0, 8, 8, 8, 8, 8] [(0, .slice As l.length cs), (3, pt d25), (4, pt w2533), (6, .slice A9554 n9555 c9556), (7, .int .i64 (i + 1))] [blk d25 70 [.slice A96 n97 c98, .slice Wb535 m2536 wc2537, .int .i64 lf3539, .bool dn3540], row 5 1 (.slice A96 n97 c98) n97 (nums .u8 ss2534), row 51 2 (.slice Wb535 m2536 wc2537) m2536 (chV ws2538), chd .u8 ws2538, blk w2533 72 [pt d25], row 23 1 (.slice A9554 n9555 c9556) n9555 (rowsV zs557), rws .u8 zs557, vw As (txV l), vws (txB l), vws (txY l), vws (txK l), vws (txQ l)] (by kernel_rfl) (by kernel_rfl) ?_ ⟨(i + 1), ss2534, Wb535, m2536, wc2537, ws2538, lf3539, dn3540, w2533, A9554, n9555, c9556, zs557, (by omega), (by assumption), hp542, (by assumption), (by assumption), (by assumption), (by omega), (by assumption), (by assumption), (by assumption), (fun h => hp548 (by exact h)), (by assumption), (by assumption), (by exact at_start (by assumption) (by assumption)), (by assumption), (by assumption), (by assumption), (by exact seen8 (by assumption) (by assumption) (by assumption)), (fun h => hp563 (by exact h)), rfl, (by rfl), (by rfl)⟩
                    show ((12 - (i + 1)).toNat : Nat) < ((12 - i).toNat : Nat)
                    omega
                  · skip
                    refine RunR.enveq [(0, .slice As l.length cs), (3, pt d25), (4, pt w2533), (6, .slice Aw nw cw), (7, .int .i64 i), (10, .int .i64 e117), (14, .slice A9554 n9555 c9556), (128, .bool true)] (by rw [decide_eq_false h564]; try rfl) ?_
                    refine RunR.sl hU [] 3 8 [0, 3, 4, 6, 7, 14, 128, 131] [(0, .slice As l.length cs), (3, pt d25), (4, pt w2533), (6, .slice Aw nw cw), (7, .int .i64 i), (14, .slice A9554 n9555 c9556), (128, .bool true), (131, .bool (decide (e117 = 0)))] 3 ?_
                    refine RunR.ev [0, 3, 4, 6, 7, 14, 128, 131] [(0, .slice As l.length cs), (3, pt d25), (4, pt w2533), (6, .slice Aw nw cw), (7, .int .i64 i), (14, .slice A9554 n9555 c9556), (128, .bool true), (131, .bool (decide (e117 = 0)))] ?_
                    have hk565 : ¬ (e117 = 0) := by exact h203
                    refine RunR.enveq [(0, .slice As l.length cs), (3, pt d25), (4, pt w2533), (6, .slice Aw nw cw), (7, .int .i64 i), (14, .slice A9554 n9555 c9556), (128, .bool true), (131, .bool false)] (by rw [decide_eq_false hk565]; try rfl) ?_
                    refine RunR.sl hU [] 2 10 [0, 3, 4, 6, 7, 14, 128, 131, 132, 133] [(0, .slice As l.length cs), (3, pt d25), (4, pt w2533), (6, .slice Aw nw cw), (7, .int .i64 i), (14, .slice A9554 n9555 c9556), (128, .bool true), (131, .bool false), (132, .slice A9554 n9555 c9556), (133, .slice Aw nw cw)] 2 ?_
                    refine RunR.st (some 134) (.call { callee := .value (.func 17), args := #[.tmp 132, .tmp 133], argTypes := #[39, 39] }) (Step.cl 17 [.slice A9554 n9555 c9556, .slice Aw nw cw] [] [vw A9554 (rowsV zs557), vws (rowsL .u8 zs557), vw Aw (rowsV xw), vws (rowsL .u8 xw)] [row 23 1 (.slice A9554 n9555 c9556) n9555 (rowsV zs557), rws .u8 zs557, blk w2533 72 [pt d25], blk d25 70 [.slice A96 n97 c98, .slice Wb535 m2536 wc2537, .int .i64 lf3539, .bool dn3540], row 5 1 (.slice A96 n97 c98) n97 (nums .u8 ss2534), row 51 2 (.slice Wb535 m2536 wc2537) m2536 (chV ws2538), chd .u8 ws2538, blk w2430 72 [pt d25], row 23 1 (.slice A9390 n9391 c9392) n9391 (rowsV zs393), rws .u8 (xw ++ zs393), blk wv 72 [pt d25], row 51 2 (.slice La103 lm104 lc105) lm104 (chV ls106), chd .u8 ls106, blk b102 26 [.slice bA72 bl74.length bc73, .slice yA75 yl77.length yc76, .int .i64 ff78, .slice kA79 kb81.length kc80, .int .i64 gg82, .slice qA83 qb85.length qc84], row 23 1 (.slice Aw nw cw) nw (rowsV xw), vw As (txV l), vws (txB l), vws (txY l), vws (txK l), vws (txQ l)] (wr_Same_spec A9554 n9555 c9556 zs557 Aw nw cw xw (by assumption) (by assumption) (by assumption) (by assumption) (by assumption) (by omega)) [] (((((Lend.nil _).ofRwsL (b := zs393) 9 (by kernel_rfl)).tells 14 (row 23 1 (.slice Aw nw cw) nw (rowsV xw)) Aw (rowsV xw) (by kernel_rfl) (tells_row _ _ _ _ _ _)).ofRws 1 (by kernel_rfl)).tells 0 (row 23 1 (.slice A9554 n9555 c9556) n9555 (rowsV zs557)) A9554 (rowsV zs557) (by kernel_rfl) (tells_row _ _ _ _ _ _)) ?_)
                    rintro _ _ ⟨rfl, rfl⟩
                    refine RunR.sl hU [] 3 14 [0, 3, 4, 6, 7, 14, 137] [(0, .slice As l.length cs), (3, pt d25), (4, pt w2533), (6, .slice Aw nw cw), (7, .int .i64 i), (14, .slice A9554 n9555 c9556), (137, .bool (!decide (rb zs557 = rb xw)))] 3 ?_
                    refine RunR.ev [0, 3, 4, 6, 7, 14, 137] [(0, .slice As l.length cs), (3, pt d25), (4, pt w2533), (6, .slice Aw nw cw), (7, .int .i64 i), (14, .slice A9554 n9555 c9556), (137, .bool (!decide (rb zs557 = rb xw)))] ?_
                    have hk566 : (rb zs557 = rb xw) := by have hd_ := hp394; exact at_old (at_end (by assumption) (by assumption) (by assumption) (by assumption) (by assumption) (by assumption) (by assumption) (le_and (by assumption)) (by assumption)) (by assumption) hsw hd_ (by assumption)
                    refine RunR.enveq [(0, .slice As l.length cs), (3, pt d25), (4, pt w2533), (6, .slice Aw nw cw), (7, .int .i64 i), (14, .slice A9554 n9555 c9556), (137, .bool false)] (by rw [decide_eq_true hk566]; try rfl) ?_
                    refine RunR.nn ?_
                    refine RunC.cond (b := false) (by kernel_rfl) (fun h => by cases h) (fun _ => ?_)
                    refine RunC.ksr ?_
                    refine RunR.sl hU [] 2 2 [0, 3, 4, 6, 7] [(0, .slice As l.length cs), (3, pt d25), (4, pt w2533), (6, .slice A9554 n9555 c9556), (7, .int .i64 i)] 2 ?_
                    refine RunR.nn ?_
                    refine RunC.exit ?_
                    refine kseq_e ?_
                    refine kblock_e ?_
                    refine kseq_n ?_
                    refine RunC.region ?_
                    refine RunR.sil hU [1] 3 3 [0, 3, 4, 6, 7] [(0, .slice As l.length cs), (3, pt d25), (4, pt w2533), (6, .slice A9554 n9555 c9556), (7, .int .i64 (i + 1))] ((True) ∧ (-9223372036854775808 ≤ (i + 1) ∧ (i + 1) < 9223372036854775808) ∧ (True) ∧ True) rfl (by kernel_rfl) ⟨trivial, (by omega), trivial, trivial⟩ ?_
                    refine RunR.dn ?_
                    refine kloop_n _ [0, 3, 4, 6, 7] [3, 3, 3, 3, 2, 0, 0, 8, 8, 8, 8, 8] [(0, .slice As l.length cs), (3, pt d25), (4, pt w2533), (6, .slice A9554 n9555 c9556), (7, .int .i64 (i + 1))] [blk d25 70 [.slice A96 n97 c98, .slice Wb535 m2536 wc2537, .int .i64 lf3539, .bool dn3540], row 5 1 (.slice A96 n97 c98) n97 (nums .u8 ss2534), row 51 2 (.slice Wb535 m2536 wc2537) m2536 (chV ws2538), chd .u8 ws2538, blk w2533 72 [pt d25], row 23 1 (.slice A9554 n9555 c9556) n9555 (rowsV zs557), rws .u8 zs557, vw As (txV l), vws (txB l), vws (txY l), vws (txK l), vws (txQ l)] (by kernel_rfl) (by kernel_rfl) ?_ ⟨(i + 1), ss2534, Wb535, m2536, wc2537, ws2538, lf3539, dn3540, w2533, A9554, n9555, c9556, zs557, (by omega), (by assumption), hp542, (by assumption), (by assumption), (by assumption), (by omega), (by assumption), (by assumption), (by assumption), (fun h => hp548 (by exact h)), (by assumption), (by assumption), (by exact at_start (by assumption) (by assumption)), (by assumption), (by assumption), (by assumption), (by exact seen8 (by assumption) (by assumption) (by assumption)), (fun h => hp563 (by exact h)), rfl, (by rfl), (by rfl)⟩
                    show ((12 - (i + 1)).toNat : Nat) < ((12 - i).toNat : Nat)
                    omega
        · skip
          refine RunC.exit ?_
          refine kseq_e ?_
          refine kloop_e ?_
          refine kblock_e ?_
          refine kseq_n ?_
          refine RunC.sr ?_
          refine RunR.sl hU [] 1 1 [6, 158] [(6, .slice Aw nw cw), (158, pt d25)] 1 ?_
          refine RunR.st (some 159) (.call { callee := .value (.func 25), args := #[.tmp 158], argTypes := #[30] }) (Step.cn 25 [pt d25] [blk d25 70 [.slice A96 n97 c98, .slice Wl ml wl, .int .i64 ll, .bool dl], row 5 1 (.slice A96 n97 c98) n97 (nums .u8 sl)] [row 51 2 (.slice Wl ml wl) ml (chV wsl), chd .u8 wsl, blk wv 72 [pt d25], row 23 1 (.slice Aw nw cw) nw (rowsV xw), rws .u8 xw, vw As (txV l), vws (txB l), vws (txY l), vws (txK l), vws (txQ l)] (d_Image_spec d25 A96 n97 c98 sl Wl ml wl ll dl hsl (by assumption) (by assumption) (fun h => hp13 (by exact h)) (by assumption) (by assumption)) [0, 0] ?_)
          rintro _ _ ⟨A9567, c9568, zs569, rfl, rfl, hp570, hp571, hp572, hp573, hp574⟩
          refine RunR.st (some 160) (.call { callee := .value (.func 24), args := #[.tmp 159], argTypes := #[23] }) (Step.cl 24 [.slice A9567 zs569.length c9568] [] [vw A9567 (nums .u8 zs569)] [row 5 1 (.slice A9567 zs569.length c9568) zs569.length (nums .u8 zs569), blk d25 70 [.slice A96 n97 c98, .slice Wl ml wl, .int .i64 ll, .bool dl], row 5 1 (.slice A96 n97 c98) n97 (nums .u8 sl), row 51 2 (.slice Wl ml wl) ml (chV wsl), chd .u8 wsl, blk wv 72 [pt d25], row 23 1 (.slice Aw nw cw) nw (rowsV xw), rws .u8 xw, vw As (txV l), vws (txB l), vws (txY l), vws (txK l), vws (txQ l)] (wr_Ahead_spec A9567 c9568 zs569 zs569.length hp572 (by assumption) (by omega) (by rfl)) [] ((Lend.nil _).tells 0 (row 5 1 (.slice A9567 zs569.length c9568) zs569.length (nums .u8 zs569)) A9567 (nums .u8 zs569) (by kernel_rfl) (tells_row _ _ _ _ _ _)) ?_)
          rintro _ _ ⟨A9575, n9576, c9577, zs578, rfl, rfl, hp579, hp580, hp581, hp582, hp583, hp584⟩
          refine RunR.sl hU [] 1 4 [160, 161] [(160, .slice A9575 n9576 c9577), (161, .slice Aw nw cw)] 1 ?_
          refine RunR.st (some 162) (.call { callee := .value (.func 17), args := #[.tmp 160, .tmp 161], argTypes := #[39, 39] }) (Step.cl 17 [.slice A9575 n9576 c9577, .slice Aw nw cw] [] [vw A9575 (rowsV zs578), vws (rowsL .u8 zs578), vw Aw (rowsV xw), vws (rowsL .u8 xw)] [row 23 1 (.slice A9575 n9576 c9577) n9576 (rowsV zs578), rws .u8 zs578, row 5 1 (.slice A9567 zs569.length c9568) zs569.length (nums .u8 zs569), blk d25 70 [.slice A96 n97 c98, .slice Wl ml wl, .int .i64 ll, .bool dl], row 5 1 (.slice A96 n97 c98) n97 (nums .u8 sl), row 51 2 (.slice Wl ml wl) ml (chV wsl), chd .u8 wsl, blk wv 72 [pt d25], row 23 1 (.slice Aw nw cw) nw (rowsV xw), rws .u8 xw, vw As (txV l), vws (txB l), vws (txY l), vws (txK l), vws (txQ l)] (wr_Same_spec A9575 n9576 c9577 zs578 Aw nw cw xw (by assumption) (by assumption) (by assumption) (by assumption) (by assumption) (by omega)) [] (((((Lend.nil _).ofRws 9 (by kernel_rfl)).tells 8 (row 23 1 (.slice Aw nw cw) nw (rowsV xw)) Aw (rowsV xw) (by kernel_rfl) (tells_row _ _ _ _ _ _)).ofRws 1 (by kernel_rfl)).tells 0 (row 23 1 (.slice A9575 n9576 c9577) n9576 (rowsV zs578)) A9575 (rowsV zs578) (by kernel_rfl) (tells_row _ _ _ _ _ _)) ?_)
          rintro _ _ ⟨rfl, rfl⟩
          refine RunR.sl hU [] 1 6 [2] [(2, .bool (decide (rb zs578 = rb xw)))] 1 ?_
          refine RunR.ev [2] [(2, .bool (decide (rb zs578 = rb xw)))] ?_
          have hk585 : (rb zs578 = rb xw) := by exact at_last (by assumption) (by assumption) hsll (by assumption) hsw
          refine RunR.enveq [(2, .bool true)] (by rw [decide_eq_true hk585]; try rfl) ?_
          refine RunR.nn ?_
          refine RunC.ret ?_
          refine kret_r [.bool true] [] [] ⟨rfl, trivial⟩ (by kernel_rfl) rfl ⟨rfl, rfl⟩
      · skip
        refine RunR.enveq [(0, .slice As l.length cs), (3, pt d25), (4, pt wv), (6, .slice Aw nw cw), (7, .int .i64 i), (40, .bool false)] (by rw [decide_eq_false h70]; try rfl) ?_
        refine RunR.sl hU [] 3 8 [0, 3, 4, 6, 7, 43] [(0, .slice As l.length cs), (3, pt d25), (4, pt wv), (6, .slice Aw nw cw), (7, .int .i64 i), (43, .bool false)] 1 ?_
        refine RunR.nn ?_
        refine RunC.cond (b := false) (by kernel_rfl) (fun h => by cases h) (fun _ => ?_)
        refine RunC.exit ?_
        refine kseq_e ?_
        refine kloop_e ?_
        refine kblock_e ?_
        refine kseq_n ?_
        refine RunC.sr ?_
        refine RunR.sl hU [] 1 1 [6, 158] [(6, .slice Aw nw cw), (158, pt d25)] 1 ?_
        refine RunR.st (some 159) (.call { callee := .value (.func 25), args := #[.tmp 158], argTypes := #[30] }) (Step.cn 25 [pt d25] [blk d25 70 [.slice A96 n97 c98, .slice Wl ml wl, .int .i64 ll, .bool dl], row 5 1 (.slice A96 n97 c98) n97 (nums .u8 sl)] [row 51 2 (.slice Wl ml wl) ml (chV wsl), chd .u8 wsl, blk wv 72 [pt d25], row 23 1 (.slice Aw nw cw) nw (rowsV xw), rws .u8 xw, vw As (txV l), vws (txB l), vws (txY l), vws (txK l), vws (txQ l)] (d_Image_spec d25 A96 n97 c98 sl Wl ml wl ll dl hsl (by assumption) (by assumption) (fun h => hp13 (by exact h)) (by assumption) (by assumption)) [0, 0] ?_)
        rintro _ _ ⟨A9586, c9587, zs588, rfl, rfl, hp589, hp590, hp591, hp592, hp593⟩
        refine RunR.st (some 160) (.call { callee := .value (.func 24), args := #[.tmp 159], argTypes := #[23] }) (Step.cl 24 [.slice A9586 zs588.length c9587] [] [vw A9586 (nums .u8 zs588)] [row 5 1 (.slice A9586 zs588.length c9587) zs588.length (nums .u8 zs588), blk d25 70 [.slice A96 n97 c98, .slice Wl ml wl, .int .i64 ll, .bool dl], row 5 1 (.slice A96 n97 c98) n97 (nums .u8 sl), row 51 2 (.slice Wl ml wl) ml (chV wsl), chd .u8 wsl, blk wv 72 [pt d25], row 23 1 (.slice Aw nw cw) nw (rowsV xw), rws .u8 xw, vw As (txV l), vws (txB l), vws (txY l), vws (txK l), vws (txQ l)] (wr_Ahead_spec A9586 c9587 zs588 zs588.length hp591 (by assumption) (by omega) (by rfl)) [] ((Lend.nil _).tells 0 (row 5 1 (.slice A9586 zs588.length c9587) zs588.length (nums .u8 zs588)) A9586 (nums .u8 zs588) (by kernel_rfl) (tells_row _ _ _ _ _ _)) ?_)
        rintro _ _ ⟨A9594, n9595, c9596, zs597, rfl, rfl, hp598, hp599, hp600, hp601, hp602, hp603⟩
        refine RunR.sl hU [] 1 4 [160, 161] [(160, .slice A9594 n9595 c9596), (161, .slice Aw nw cw)] 1 ?_
        refine RunR.st (some 162) (.call { callee := .value (.func 17), args := #[.tmp 160, .tmp 161], argTypes := #[39, 39] }) (Step.cl 17 [.slice A9594 n9595 c9596, .slice Aw nw cw] [] [vw A9594 (rowsV zs597), vws (rowsL .u8 zs597), vw Aw (rowsV xw), vws (rowsL .u8 xw)] [row 23 1 (.slice A9594 n9595 c9596) n9595 (rowsV zs597), rws .u8 zs597, row 5 1 (.slice A9586 zs588.length c9587) zs588.length (nums .u8 zs588), blk d25 70 [.slice A96 n97 c98, .slice Wl ml wl, .int .i64 ll, .bool dl], row 5 1 (.slice A96 n97 c98) n97 (nums .u8 sl), row 51 2 (.slice Wl ml wl) ml (chV wsl), chd .u8 wsl, blk wv 72 [pt d25], row 23 1 (.slice Aw nw cw) nw (rowsV xw), rws .u8 xw, vw As (txV l), vws (txB l), vws (txY l), vws (txK l), vws (txQ l)] (wr_Same_spec A9594 n9595 c9596 zs597 Aw nw cw xw (by assumption) (by assumption) (by assumption) (by assumption) (by assumption) (by omega)) [] (((((Lend.nil _).ofRws 9 (by kernel_rfl)).tells 8 (row 23 1 (.slice Aw nw cw) nw (rowsV xw)) Aw (rowsV xw) (by kernel_rfl) (tells_row _ _ _ _ _ _)).ofRws 1 (by kernel_rfl)).tells 0 (row 23 1 (.slice A9594 n9595 c9596) n9595 (rowsV zs597)) A9594 (rowsV zs597) (by kernel_rfl) (tells_row _ _ _ _ _ _)) ?_)
        rintro _ _ ⟨rfl, rfl⟩
        refine RunR.sl hU [] 1 6 [2] [(2, .bool (decide (rb zs597 = rb xw)))] 1 ?_
        refine RunR.ev [2] [(2, .bool (decide (rb zs597 = rb xw)))] ?_
        have hk604 : (rb zs597 = rb xw) := by exact at_last (by assumption) (by assumption) hsll (by assumption) hsw
        refine RunR.enveq [(2, .bool true)] (by rw [decide_eq_true hk604]; try rfl) ?_
        refine RunR.nn ?_
        refine RunC.ret ?_
        refine kret_r [.bool true] [] [] ⟨rfl, trivial⟩ (by kernel_rfl) rfl ⟨rfl, rfl⟩
end Go.Proofs.Ytaaplakahkgclaa.LWalAtomic
