/- The law CurveShares returns true whatever it is handed: its walk, on the contracts of what it calls. -/
import Derived.Test.YtaaplakahkgclaaSLzh
import Derived.Test.YtaaplakahkgclaaKPure
import Derived.Test.YtaaplakahkgclaaProg
import Derived.Test.YtaaplakahkgclaaX1
import Derived.Test.YtaaplakahkgclaaX2
import Derived.Test.YtaaplakahkgclaaX3
import Derived.Test.YtaaplakahkgclaaX4
import Derived.Test.YtaaplakahkgclaaX5
import Derived.Test.YtaaplakahkgclaaX6
import Derived.Test.YtaaplakahkgclaaX7
import Derived.Test.YtaaplakahkgclaaX8
import Derived.Test.YtaaplakahkgclaaX9
import Derived.Test.YtaaplakahkgclaaY1
import Derived.Test.YtaaplakahkgclaaY2
import Derived.Test.YtaaplakahkgclaaY3
import Derived.Test.YtaaplakahkgclaaY4
import Derived.Test.YtaaplakahkgclaaY5
import Derived.Test.YtaaplakahkgclaaY6
import Derived.Test.YtaaplakahkgclaaZ1
import Derived.Test.YtaaplakahkgclaaZ2
import Derived.Test.YtaaplakahkgclaaZ3
import Derived.Test.YtaaplakahkgclaaZ4
import Derived.Test.YtaaplakahkgclaaZ5
import Derived.Test.YtaaplakahkgclaaZ6
import Derived.Test.YtaaplakahkgclaaZ7
import Derived.Test.YtaaplakahkgclaaZ8
namespace Go.Proofs.Ytaaplakahkgclaa.LCurveShares
open Go Go.Proofs.Ytaaplakahkgclaa.SL Go.Proofs.Ytaaplakahkgclaa.SL.W Go.Proofs.Ytaaplakahkgclaa.SL.F Go.Proofs.Ytaaplakahkgclaa.SL.N Go.Proofs.Ytaaplakahkgclaa.SL.E Go.Proofs.Ytaaplakahkgclaa.SL.K Go.Proofs.Ytaaplakahkgclaa.X1 Go.Proofs.Ytaaplakahkgclaa.X2 Go.Proofs.Ytaaplakahkgclaa.X3 Go.Proofs.Ytaaplakahkgclaa.X4 Go.Proofs.Ytaaplakahkgclaa.X5 Go.Proofs.Ytaaplakahkgclaa.X6 Go.Proofs.Ytaaplakahkgclaa.X7 Go.Proofs.Ytaaplakahkgclaa.X8 Go.Proofs.Ytaaplakahkgclaa.X9 Go.Proofs.Ytaaplakahkgclaa.Y1 Go.Proofs.Ytaaplakahkgclaa.Y2 Go.Proofs.Ytaaplakahkgclaa.Y3 Go.Proofs.Ytaaplakahkgclaa.Y4 Go.Proofs.Ytaaplakahkgclaa.Y5 Go.Proofs.Ytaaplakahkgclaa.Y6 Go.Proofs.Ytaaplakahkgclaa.Z1 Go.Proofs.Ytaaplakahkgclaa.Z2 Go.Proofs.Ytaaplakahkgclaa.Z3 Go.Proofs.Ytaaplakahkgclaa.Z4 Go.Proofs.Ytaaplakahkgclaa.Z5 Go.Proofs.Ytaaplakahkgclaa.Z6 Go.Proofs.Ytaaplakahkgclaa.Z7 Go.Proofs.Ytaaplakahkgclaa.Z8
set_option linter.unusedVariables false
set_option linter.unusedSimpArgs false
set_option maxRecDepth 100000
set_option maxHeartbeats 40000000
def U : Tab where
  und := [(3, .int .i64), (33, .int .i64)]
  fld := []
  sz := [(3, 1), (33, 1)]
  ti := [(3, (1, 8, .int .i64 0)), (33, (1, 8, .int .i64 0))]
  bld := []

theorem hU : U.OK Try.prog where
  und := by
    intro p hp
    simp only [U, List.mem_cons, List.not_mem_nil, or_false] at hp
    rcases hp with rfl | rfl
    · exact Try.underlying3
    · exact Try.underlying33
  fld := by
    intro p hp; cases hp
  sz := by
    intro p hp
    simp only [U, List.mem_cons, List.not_mem_nil, or_false] at hp
    rcases hp with rfl | rfl
    · exact ⟨Try.prog.types[3]!, by kernel_rfl, by kernel_rfl⟩
    · exact ⟨Try.prog.types[33]!, by kernel_rfl, by kernel_rfl⟩
  ti := by
    intro p hp
    simp only [U, List.mem_cons, List.not_mem_nil, or_false] at hp
    rcases hp with rfl | rfl
    · exact ⟨Try.prog.types[3]!, by kernel_rfl, by kernel_rfl, by kernel_rfl, by kernel_rfl⟩
    · exact ⟨Try.prog.types[33]!, by kernel_rfl, by kernel_rfl, by kernel_rfl, by kernel_rfl⟩
  bld := by
    intro p hp; cases hp
  mixed := by kernel_rfl

theorem l8_CurveShares_spec (A8 : Option Addr) (c8 : Nat) (ks : List Int) (A7 : Option Addr) (c7 : Nat) (ps : List Int) (l_ks : Nat) (l_ps : Nat) (hIks : In .u8 ks) (hCks : ks.length ≤ c8) (hBks : ks.length ≤ 140737488351232) (hIps : In .u8 ps) (hCps : ps.length ≤ c7) (hBps : ps.length ≤ 140737488351232) (hl_ks : ks.length = l_ks) (hl_ps : ps.length = l_ps) :
    CallsS Try.prog 7 [.slice A8 l_ks c8, .slice A7 l_ps c7] [vw A8 (nums .u8 ks), vw A7 (nums .u8 ps)] (fun r D => r = .bool true ∧ D = []) := by
  subst hl_ks
  subst hl_ps
  refine CallsS.enter hU Try.f7 _ [.tmp 4] 31 Try.func7 rfl (by decide) rfl rfl (by kernel_rfl) fun w0 W => ?_
  refine RunC.know (p := 0 < ks.length → Option.isSome A8 = true) (fun _ _ w hs => vw_some hs 0 rfl (by (simp [nums_length]; done))) (fun hA1 => ?_)
  refine RunC.know (p := 0 < ps.length → Option.isSome A7 = true) (fun _ _ w hs => vw_some hs 1 rfl (by (simp [nums_length]; done))) (fun hA2 => ?_)
  refine RunC.sr ?_
  refine RunR.sl hU [] 1 1 [0, 1, 4] [(0, .slice A8 ks.length c8), (1, .slice A7 ps.length c7), (4, .bool false)] 1 ?_
  refine RunR.nn ?_
  refine RunC.seq ?_
  refine RunC.sr ?_
  refine RunR.st (some 9) (.call { callee := .value (.func 31), args := #[], argTypes := #[] }) (Step.cn 31 [] [] [vw A8 (nums .u8 ks), vw A7 (nums .u8 ps)] (l8_awake_spec) [] ?_)
  rintro _ _ ⟨rfl, rfl⟩
  refine RunR.sl hU [] 1 2 [0, 1, 4, 10] [(0, .slice A8 ks.length c8), (1, .slice A7 ps.length c7), (4, .bool false), (10, .bool false)] 1 ?_
  refine RunR.nn ?_
  refine RunC.cond (b := false) (by kernel_rfl) (fun h => by cases h) (fun _ => ?_)
  refine RunC.ksr ?_
  refine RunR.sl hU [] 2 2 [0, 1, 4, 12, 13] [(0, .slice A8 ks.length c8), (1, .slice A7 ps.length c7), (4, .bool false), (12, .slice A8 ks.length c8), (13, .slice A7 ps.length c7)] 2 ?_
  refine RunR.st (some 14) (.call { callee := .value (.func 32), args := #[.tmp 12, .tmp 13], argTypes := #[23, 23] }) (Step.cl 32 [.slice A8 ks.length c8, .slice A7 ps.length c7] [] [vw A8 (nums .u8 ks), vw A7 (nums .u8 ps)] [vw A8 (nums .u8 ks), vw A7 (nums .u8 ps)] (k_Shared_spec A8 c8 ks A7 c7 ps ks.length ps.length hIks (by assumption) (by assumption) hIps (by assumption) (by assumption) (by rfl) (by rfl)) [] (((Lend.nil _).tells 1 (vw A7 (nums .u8 ps)) A7 (nums .u8 ps) (by kernel_rfl) (tells_vw _ _)).tells 0 (vw A8 (nums .u8 ks)) A8 (nums .u8 ks) (by kernel_rfl) (tells_vw _ _)) ?_)
  rintro _ _ ⟨A93, c94, zs5, e6, rfl, rfl, hp7, hp8, hp9, hp10, hp11⟩
  refine RunR.sl hU [] 5 8 [0, 1, 4, 5, 6] [(0, .slice A8 ks.length c8), (1, .slice A7 ps.length c7), (4, .bool false), (5, .slice A93 zs5.length c94), (6, .int .i64 e6)] 5 ?_
  refine RunR.nx ?_
  refine RunR.sl hU [] 2 2 [4, 5, 6, 18, 19] [(4, .bool false), (5, .slice A93 zs5.length c94), (6, .int .i64 e6), (18, .slice A8 ks.length c8), (19, .slice A7 ps.length c7)] 2 ?_
  refine RunR.st (some 20) (.call { callee := .value (.func 33), args := #[.tmp 18, .tmp 19], argTypes := #[23, 23] }) (Step.cl 33 [.slice A8 ks.length c8, .slice A7 ps.length c7] [] [vw A8 (nums .u8 ks), vw A7 (nums .u8 ps)] [row 5 1 (.slice A93 zs5.length c94) zs5.length (nums .u8 zs5), vw A8 (nums .u8 ks), vw A7 (nums .u8 ps)] (kr_Shared_spec A8 c8 ks A7 c7 ps ks.length ps.length hIks (by assumption) (by assumption) hIps (by assumption) (by assumption) (by rfl) (by rfl)) [] (((Lend.nil _).tells 2 (vw A7 (nums .u8 ps)) A7 (nums .u8 ps) (by kernel_rfl) (tells_vw _ _)).tells 1 (vw A8 (nums .u8 ks)) A8 (nums .u8 ks) (by kernel_rfl) (tells_vw _ _)) ?_)
  rintro _ _ ⟨A912, c913, zs14, e15, rfl, rfl, hp16, hp17, hp18, hp19, hp20⟩
  refine RunR.sl hU [] 5 8 [4, 5, 6, 7, 8] [(4, .bool false), (5, .slice A93 zs5.length c94), (6, .int .i64 e6), (7, .slice A912 zs14.length c913), (8, .int .i64 e15)] 5 ?_
  refine RunR.nx ?_
  refine RunR.sl hU [] 4 4 [4, 5, 7, 26] [(4, .bool false), (5, .slice A93 zs5.length c94), (7, .slice A912 zs14.length c913), (26, .bool (decide (e6 = e15)))] 4 ?_
  refine RunR.ev [4, 5, 7, 26] [(4, .bool false), (5, .slice A93 zs5.length c94), (7, .slice A912 zs14.length c913), (26, .bool (decide (e6 = e15)))] ?_
  have hk21 : (e6 = e15) := by exact (share_same hp7 hp16).1
  refine RunR.enveq [(4, .bool false), (5, .slice A93 zs5.length c94), (7, .slice A912 zs14.length c913), (26, .bool true)] (by rw [decide_eq_true hk21]; try rfl) ?_
  refine RunR.sl hU [] 2 6 [4, 26, 27, 28] [(4, .bool false), (26, .bool true), (27, .slice A93 zs5.length c94), (28, .slice A912 zs14.length c913)] 2 ?_
  refine RunR.st (some 29) (.call { callee := .value (.func 34), args := #[.tmp 27, .tmp 28], argTypes := #[23, 23] }) (Step.cl 34 [.slice A93 zs5.length c94, .slice A912 zs14.length c913] [] [vw A93 (nums .u8 zs5), vw A912 (nums .u8 zs14)] [row 5 1 (.slice A912 zs14.length c913) zs14.length (nums .u8 zs14), row 5 1 (.slice A93 zs5.length c94) zs5.length (nums .u8 zs5), vw A8 (nums .u8 ks), vw A7 (nums .u8 ps)] (r_Equal_spec A93 c94 zs5 A912 c913 zs14 zs5.length zs14.length hp9 (by omega) hp18 (by omega) (by rfl) (by rfl)) [] (((Lend.nil _).tells 0 (row 5 1 (.slice A912 zs14.length c913) zs14.length (nums .u8 zs14)) A912 (nums .u8 zs14) (by kernel_rfl) (tells_row _ _ _ _ _ _)).tells 1 (row 5 1 (.slice A93 zs5.length c94) zs5.length (nums .u8 zs5)) A93 (nums .u8 zs5) (by kernel_rfl) (tells_row _ _ _ _ _ _)) ?_)
  rintro _ _ ⟨rfl, rfl⟩
  refine RunR.sl hU [] 2 9 [4] [(4, .bool (decide (zs5 = zs14)))] 2 ?_
  refine RunR.ev [4] [(4, .bool (decide (zs5 = zs14)))] ?_
  have hk22 : (zs5 = zs14) := by exact (share_same hp7 hp16).2
  refine RunR.enveq [(4, .bool true)] (by rw [decide_eq_true hk22]; try rfl) ?_
  refine RunR.nn ?_
  refine RunC.ret ?_
  refine kret_r [.bool true] [] [] ⟨rfl, trivial⟩ (by kernel_rfl) rfl ⟨rfl, rfl⟩
end Go.Proofs.Ytaaplakahkgclaa.LCurveShares
