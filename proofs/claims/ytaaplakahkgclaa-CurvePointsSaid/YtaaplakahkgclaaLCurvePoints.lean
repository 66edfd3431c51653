/- The law CurvePoints returns true whatever it is handed: its walk, on the contracts of what it calls. -/
import Derived.Test.YtaaplakahkgclaaSLzg
import Derived.Test.YtaaplakahkgclaaKPure
import Derived.Test.YtaaplakahkgclaaProg
import Derived.Test.YtaaplakahkgclaaX1
import Derived.Test.YtaaplakahkgclaaX2
import Derived.Test.YtaaplakahkgclaaX3
import Derived.Test.YtaaplakahkgclaaX4
import Derived.Test.YtaaplakahkgclaaX5
import Derived.Test.YtaaplakahkgclaaX6
import Derived.Test.YtaaplakahkgclaaX7
import Derived.Test.YtaaplakahkgclaaX8
import Derived.Test.YtaaplakahkgclaaX9
import Derived.Test.YtaaplakahkgclaaY1
import Derived.Test.YtaaplakahkgclaaY2
import Derived.Test.YtaaplakahkgclaaY3
import Derived.Test.YtaaplakahkgclaaY4
import Derived.Test.YtaaplakahkgclaaY5
import Derived.Test.YtaaplakahkgclaaY6
import Derived.Test.YtaaplakahkgclaaZ1
import Derived.Test.YtaaplakahkgclaaZ2
import Derived.Test.YtaaplakahkgclaaZ3
import Derived.Test.YtaaplakahkgclaaZ4
import Derived.Test.YtaaplakahkgclaaZ5
import Derived.Test.YtaaplakahkgclaaZ6
import Derived.Test.YtaaplakahkgclaaZ7
import Derived.Test.YtaaplakahkgclaaZ8
namespace Go.Proofs.Ytaaplakahkgclaa.LCurvePoints
open Go Go.Proofs.Ytaaplakahkgclaa.SL Go.Proofs.Ytaaplakahkgclaa.SL.W Go.Proofs.Ytaaplakahkgclaa.SL.F Go.Proofs.Ytaaplakahkgclaa.SL.N Go.Proofs.Ytaaplakahkgclaa.SL.E Go.Proofs.Ytaaplakahkgclaa.SL.K Go.Proofs.Ytaaplakahkgclaa.X1 Go.Proofs.Ytaaplakahkgclaa.X2 Go.Proofs.Ytaaplakahkgclaa.X3 Go.Proofs.Ytaaplakahkgclaa.X4 Go.Proofs.Ytaaplakahkgclaa.X5 Go.Proofs.Ytaaplakahkgclaa.X6 Go.Proofs.Ytaaplakahkgclaa.X7 Go.Proofs.Ytaaplakahkgclaa.X8 Go.Proofs.Ytaaplakahkgclaa.X9 Go.Proofs.Ytaaplakahkgclaa.Y1 Go.Proofs.Ytaaplakahkgclaa.Y2 Go.Proofs.Ytaaplakahkgclaa.Y3 Go.Proofs.Ytaaplakahkgclaa.Y4 Go.Proofs.Ytaaplakahkgclaa.Y5 Go.Proofs.Ytaaplakahkgclaa.Y6 Go.Proofs.Ytaaplakahkgclaa.Z1 Go.Proofs.Ytaaplakahkgclaa.Z2 Go.Proofs.Ytaaplakahkgclaa.Z3 Go.Proofs.Ytaaplakahkgclaa.Z4 Go.Proofs.Ytaaplakahkgclaa.Z5 Go.Proofs.Ytaaplakahkgclaa.Z6 Go.Proofs.Ytaaplakahkgclaa.Z7 Go.Proofs.Ytaaplakahkgclaa.Z8
set_option linter.unusedVariables false
set_option linter.unusedSimpArgs false
set_option maxRecDepth 100000
set_option maxHeartbeats 40000000
def U : Tab where
  und := [(3, .int .i64), (5, .int .u8), (23, .slice 5), (33, .int .i64)]
  fld := []
  sz := [(3, 1), (5, 1), (23, 1), (33, 1)]
  ti := [(3, (1, 8, .int .i64 0)), (5, (1, 1, .int .u8 0)), (23, (1, 24, .slice none 0 0)), (33, (1, 8, .int .i64 0))]
  bld := []

theorem hU : U.OK Try.prog where
  und := by
    intro p hp
    simp only [U, List.mem_cons, List.not_mem_nil, or_false] at hp
    rcases hp with rfl | rfl | rfl | rfl
    · exact Try.underlying3
    · exact Try.underlying5
    · exact Try.underlying23
    · exact Try.underlying33
  fld := by
    intro p hp; cases hp
  sz := by
    intro p hp
    simp only [U, List.mem_cons, List.not_mem_nil, or_false] at hp
    rcases hp with rfl | rfl | rfl | rfl
    · exact ⟨Try.prog.types[3]!, by kernel_rfl, by kernel_rfl⟩
    · exact ⟨Try.prog.types[5]!, by kernel_rfl, by kernel_rfl⟩
    · exact ⟨Try.prog.types[23]!, by kernel_rfl, by kernel_rfl⟩
    · exact ⟨Try.prog.types[33]!, by kernel_rfl, by kernel_rfl⟩
  ti := by
    intro p hp
    simp only [U, List.mem_cons, List.not_mem_nil, or_false] at hp
    rcases hp with rfl | rfl | rfl | rfl
    · exact ⟨Try.prog.types[3]!, by kernel_rfl, by kernel_rfl, by kernel_rfl, by kernel_rfl⟩
    · exact ⟨Try.prog.types[5]!, by kernel_rfl, by kernel_rfl, by kernel_rfl, by kernel_rfl⟩
    · exact ⟨Try.prog.types[23]!, by kernel_rfl, by kernel_rfl, by kernel_rfl, by kernel_rfl⟩
    · exact ⟨Try.prog.types[33]!, by kernel_rfl, by kernel_rfl, by kernel_rfl, by kernel_rfl⟩
  bld := by
    intro p hp; cases hp
  mixed := by kernel_rfl

theorem l8_CurvePoints_spec (A8 : Option Addr) (c8 : Nat) (ks : List Int) (l_ks : Nat) (hIks : In .u8 ks) (hCks : ks.length ≤ c8) (hBks : ks.length ≤ 140737488351232) (hl_ks : ks.length = l_ks) :
    CallsS Try.prog 8 [.slice A8 l_ks c8] [vw A8 (nums .u8 ks)] (fun r D => r = .bool true ∧ D = []) := by
  subst hl_ks
  refine CallsS.enter hU Try.f8 _ [.tmp 2] 63 Try.func8 rfl (by decide) rfl rfl (by kernel_rfl) fun w0 W => ?_
  refine RunC.know (p := 0 < ks.length → Option.isSome A8 = true) (fun _ _ w hs => vw_some hs 0 rfl (by (simp [nums_length]; done))) (fun hA1 => ?_)
  refine RunC.sr ?_
  refine RunR.sl hU [] 1 1 [0, 2] [(0, .slice A8 ks.length c8), (2, .bool false)] 1 ?_
  refine RunR.nn ?_
  refine RunC.seq ?_
  refine RunC.sr ?_
  refine RunR.st (some 10) (.call { callee := .value (.func 31), args := #[], argTypes := #[] }) (Step.cn 31 [] [] [vw A8 (nums .u8 ks)] (l8_awake_spec) [] ?_)
  rintro _ _ ⟨rfl, rfl⟩
  refine RunR.sl hU [] 1 2 [0, 2, 11] [(0, .slice A8 ks.length c8), (2, .bool false), (11, .bool false)] 1 ?_
  refine RunR.nn ?_
  refine RunC.cond (b := false) (by kernel_rfl) (fun h => by cases h) (fun _ => ?_)
  refine RunC.ksr ?_
  refine RunR.st (some 12) (.buildSlice 23 0 #[]) (Step.lit_nums hU 5 1 .u8 (.int .u8 0) ([] : List Int) rfl rfl (by kernel_rfl) rfl rfl (by kernel_rfl) (fun b2 => ?_))
  have hl3 : (([] : List Int)).length = 0 := rfl
  refine RunR.sl hU [] 1 2 [0, 2, 12, 13] [(0, .slice A8 ks.length c8), (2, .bool false), (12, .slice (some ⟨b2, 0, none⟩) 0 0), (13, .slice A8 ks.length c8)] 1 ?_
  have hl8 : (([] : List Int)).length = 0 := rfl
  refine RunR.st (some 14) (.call { callee := .builtin .append, args := #[.tmp 12, .tmp 13], argTypes := #[23, 23] }) (Step.append_nums hU 5 1 (.int .u8 0) .u8 0 1 (some ⟨b2, 0, none⟩) 0 0 ([] : List Int) A8 ks.length c8 (vw A8 (nums .u8 ks)) ks rfl rfl rfl (by kernel_rfl) (by kernel_rfl) (by kernel_rfl) (by kernel_rfl) (tells_vw _ _) (by rfl) (by rfl) (by omega) (by omega) (by kernel_rfl) (fun Aq4 cq5 hc6 hA7 => ?_))
  simp only [List.nil_append] at hc6 hA7
  refine RunR.sl hU [] 1 4 [0, 2, 3] [(0, .slice A8 ks.length c8), (2, .bool false), (3, .slice Aq4 ks.length cq5)] 1 ?_
  refine RunR.nx ?_
  refine RunR.sl hU [] 1 1 [0, 2, 3, 16] [(0, .slice A8 ks.length c8), (2, .bool false), (3, .slice Aq4 ks.length cq5), (16, .slice Aq4 ks.length cq5)] 1 ?_
  refine RunR.st (some 17) (.call { callee := .value (.func 35), args := #[.tmp 16], argTypes := #[23] }) (Step.cl 35 [.slice Aq4 ks.length cq5] [] [vw Aq4 (nums .u8 ks)] [row 5 1 (.slice Aq4 ks.length cq5) ks.length (nums .u8 ks), vw A8 (nums .u8 ks)] (k_Public_spec Aq4 cq5 ks ks.length hIks (by assumption) (by assumption) (by rfl)) [] ((Lend.nil _).tells 0 (row 5 1 (.slice Aq4 ks.length cq5) ks.length (nums .u8 ks)) Aq4 (nums .u8 ks) (by kernel_rfl) (tells_row _ _ _ _ _ _)) ?_)
  rintro _ _ ⟨A99, c910, zs11, e12, rfl, rfl, hp13, hp14, hp15, hp16, hp17⟩
  refine RunR.sl hU [] 5 7 [0, 2, 3, 4, 5] [(0, .slice A8 ks.length c8), (2, .bool false), (3, .slice Aq4 ks.length cq5), (4, .slice A99 zs11.length c910), (5, .int .i64 e12)] 5 ?_
  refine RunR.nx ?_
  refine RunR.sl hU [] 1 1 [0, 2, 3, 4, 5, 21] [(0, .slice A8 ks.length c8), (2, .bool false), (3, .slice Aq4 ks.length cq5), (4, .slice A99 zs11.length c910), (5, .int .i64 e12), (21, .slice A8 ks.length c8)] 1 ?_
  refine RunR.st (some 22) (.call { callee := .value (.func 36), args := #[.tmp 21], argTypes := #[23] }) (Step.cl 36 [.slice A8 ks.length c8] [] [vw A8 (nums .u8 ks)] [row 5 1 (.slice A99 zs11.length c910) zs11.length (nums .u8 zs11), row 5 1 (.slice Aq4 ks.length cq5) ks.length (nums .u8 ks), vw A8 (nums .u8 ks)] (kr_Public_spec A8 c8 ks ks.length hIks (by assumption) (by assumption) (by rfl)) [] ((Lend.nil _).tells 2 (vw A8 (nums .u8 ks)) A8 (nums .u8 ks) (by kernel_rfl) (tells_vw _ _)) ?_)
  rintro _ _ ⟨A918, c919, zs20, e21, rfl, rfl, hp22, hp23, hp24, hp25, hp26⟩
  refine RunR.sl hU [] 5 7 [0, 2, 3, 4, 5, 6, 7] [(0, .slice A8 ks.length c8), (2, .bool false), (3, .slice Aq4 ks.length cq5), (4, .slice A99 zs11.length c910), (5, .int .i64 e12), (6, .slice A918 zs20.length c919), (7, .int .i64 e21)] 5 ?_
  refine RunR.nx ?_
  refine RunR.sl hU [] 1 1 [0, 2, 3, 4, 5, 6, 7, 26] [(0, .slice A8 ks.length c8), (2, .bool false), (3, .slice Aq4 ks.length cq5), (4, .slice A99 zs11.length c910), (5, .int .i64 e12), (6, .slice A918 zs20.length c919), (7, .int .i64 e21), (26, .slice Aq4 ks.length cq5)] 1 ?_
  refine RunR.st (some 27) (.call { callee := .value (.func 37), args := #[.tmp 26], argTypes := #[23] }) (Step.cl 37 [.slice Aq4 ks.length cq5] [] [vw Aq4 (nums .u8 ks)] [row 5 1 (.slice A918 zs20.length c919) zs20.length (nums .u8 zs20), row 5 1 (.slice A99 zs11.length c910) zs11.length (nums .u8 zs11), row 5 1 (.slice Aq4 ks.length cq5) ks.length (nums .u8 ks), vw A8 (nums .u8 ks)] (k_Clamp_spec Aq4 cq5 ks ks.length hIks (by assumption) (by assumption) (by rfl)) [] ((Lend.nil _).tells 2 (row 5 1 (.slice Aq4 ks.length cq5) ks.length (nums .u8 ks)) Aq4 (nums .u8 ks) (by kernel_rfl) (tells_row _ _ _ _ _ _)) ?_)
  rintro _ _ ⟨A927, c928, zs29, e30, n931, rfl, rfl, hp32, hp33, hp34, hp35, hp36, hp37⟩
  refine RunR.sl hU [] 5 7 [0, 2, 3, 4, 5, 6, 7, 8, 9] [(0, .slice A8 ks.length c8), (2, .bool false), (3, .slice Aq4 ks.length cq5), (4, .slice A99 zs11.length c910), (5, .int .i64 e12), (6, .slice A918 zs20.length c919), (7, .int .i64 e21), (8, .slice A927 n931 c928), (9, .int .i64 e30)] 5 ?_
  refine RunR.nn ?_
  refine RunC.seq ?_
  refine RunC.sr ?_
  refine RunR.sl hU [] 4 4 [0, 2, 3, 4, 6, 8, 9, 33] [(0, .slice A8 ks.length c8), (2, .bool false), (3, .slice Aq4 ks.length cq5), (4, .slice A99 zs11.length c910), (6, .slice A918 zs20.length c919), (8, .slice A927 n931 c928), (9, .int .i64 e30), (33, .bool (!decide (e12 = e21)))] 4 ?_
  refine RunR.ev [0, 2, 3, 4, 6, 8, 9, 33] [(0, .slice A8 ks.length c8), (2, .bool false), (3, .slice Aq4 ks.length cq5), (4, .slice A99 zs11.length c910), (6, .slice A918 zs20.length c919), (8, .slice A927 n931 c928), (9, .int .i64 e30), (33, .bool (!decide (e12 = e21)))] ?_
  have hk38 : (e12 = e21) := by exact (pub_same hp13 hp22).1
  refine RunR.enveq [(0, .slice A8 ks.length c8), (2, .bool false), (3, .slice Aq4 ks.length cq5), (4, .slice A99 zs11.length c910), (6, .slice A918 zs20.length c919), (8, .slice A927 n931 c928), (9, .int .i64 e30), (33, .bool false)] (by rw [decide_eq_true hk38]; try rfl) ?_
  refine RunR.sl hU [] 2 6 [0, 2, 3, 8, 9, 33, 34, 35] [(0, .slice A8 ks.length c8), (2, .bool false), (3, .slice Aq4 ks.length cq5), (8, .slice A927 n931 c928), (9, .int .i64 e30), (33, .bool false), (34, .slice A99 zs11.length c910), (35, .slice A918 zs20.length c919)] 2 ?_
  refine RunR.st (some 36) (.call { callee := .value (.func 34), args := #[.tmp 34, .tmp 35], argTypes := #[23, 23] }) (Step.cl 34 [.slice A99 zs11.length c910, .slice A918 zs20.length c919] [] [vw A99 (nums .u8 zs11), vw A918 (nums .u8 zs20)] [row 5 1 (.slice A927 n931 c928) n931 (nums .u8 zs29), row 5 1 (.slice A918 zs20.length c919) zs20.length (nums .u8 zs20), row 5 1 (.slice A99 zs11.length c910) zs11.length (nums .u8 zs11), row 5 1 (.slice Aq4 ks.length cq5) ks.length (nums .u8 ks), vw A8 (nums .u8 ks)] (r_Equal_spec A99 c910 zs11 A918 c919 zs20 zs11.length zs20.length hp15 (by omega) hp24 (by omega) (by rfl) (by rfl)) [] (((Lend.nil _).tells 1 (row 5 1 (.slice A918 zs20.length c919) zs20.length (nums .u8 zs20)) A918 (nums .u8 zs20) (by kernel_rfl) (tells_row _ _ _ _ _ _)).tells 2 (row 5 1 (.slice A99 zs11.length c910) zs11.length (nums .u8 zs11)) A99 (nums .u8 zs11) (by kernel_rfl) (tells_row _ _ _ _ _ _)) ?_)
  rintro _ _ ⟨rfl, rfl⟩
  refine RunR.sl hU [] 3 10 [0, 2, 3, 8, 9, 39] [(0, .slice A8 ks.length c8), (2, .bool false), (3, .slice Aq4 ks.length cq5), (8, .slice A927 n931 c928), (9, .int .i64 e30), (39, .bool (!decide (zs11 = zs20)))] 3 ?_
  refine RunR.ev [0, 2, 3, 8, 9, 39] [(0, .slice A8 ks.length c8), (2, .bool false), (3, .slice Aq4 ks.length cq5), (8, .slice A927 n931 c928), (9, .int .i64 e30), (39, .bool (!decide (zs11 = zs20)))] ?_
  have hk39 : (zs11 = zs20) := by exact (pub_same hp13 hp22).2
  refine RunR.enveq [(0, .slice A8 ks.length c8), (2, .bool false), (3, .slice Aq4 ks.length cq5), (8, .slice A927 n931 c928), (9, .int .i64 e30), (39, .bool false)] (by rw [decide_eq_true hk39]; try rfl) ?_
  refine RunR.sl hU [] 2 12 [0, 2, 8, 9, 39, 40, 41] [(0, .slice A8 ks.length c8), (2, .bool false), (8, .slice A927 n931 c928), (9, .int .i64 e30), (39, .bool false), (40, .slice Aq4 ks.length cq5), (41, .slice A8 ks.length c8)] 2 ?_
  refine RunR.st (some 42) (.call { callee := .value (.func 34), args := #[.tmp 40, .tmp 41], argTypes := #[23, 23] }) (Step.cl 34 [.slice Aq4 ks.length cq5, .slice A8 ks.length c8] [] [vw Aq4 (nums .u8 ks), vw A8 (nums .u8 ks)] [row 5 1 (.slice A927 n931 c928) n931 (nums .u8 zs29), row 5 1 (.slice A918 zs20.length c919) zs20.length (nums .u8 zs20), row 5 1 (.slice A99 zs11.length c910) zs11.length (nums .u8 zs11), row 5 1 (.slice Aq4 ks.length cq5) ks.length (nums .u8 ks), vw A8 (nums .u8 ks)] (r_Equal_spec Aq4 cq5 ks A8 c8 ks ks.length ks.length hIks (by assumption) hIks (by assumption) (by rfl) (by rfl)) [] (((Lend.nil _).tells 4 (vw A8 (nums .u8 ks)) A8 (nums .u8 ks) (by kernel_rfl) (tells_vw _ _)).tells 3 (row 5 1 (.slice Aq4 ks.length cq5) ks.length (nums .u8 ks)) Aq4 (nums .u8 ks) (by kernel_rfl) (tells_row _ _ _ _ _ _)) ?_)
  rintro _ _ ⟨rfl, rfl⟩
  refine RunR.sl hU [] 2 15 [0, 2, 8, 9, 44] [(0, .slice A8 ks.length c8), (2, .bool false), (8, .slice A927 n931 c928), (9, .int .i64 e30), (44, .bool (!decide (ks = ks)))] 2 ?_
  refine RunR.ev [0, 2, 8, 9, 44] [(0, .slice A8 ks.length c8), (2, .bool false), (8, .slice A927 n931 c928), (9, .int .i64 e30), (44, .bool (!decide (ks = ks)))] ?_
  have hk40 : (ks = ks) := by rfl
  refine RunR.enveq [(0, .slice A8 ks.length c8), (2, .bool false), (8, .slice A927 n931 c928), (9, .int .i64 e30), (44, .bool false)] (by rw [decide_eq_true hk40]; try rfl) ?_
  refine RunR.nn ?_
  refine RunC.cond (b := false) (by kernel_rfl) (fun h => by cases h) (fun _ => ?_)
  refine RunC.ks ?_
  refine RunC.seq ?_
  refine RunC.sr ?_
  refine RunR.sl hU [] 3 3 [0, 2, 8, 9, 47] [(0, .slice A8 ks.length c8), (2, .bool false), (8, .slice A927 n931 c928), (9, .int .i64 e30), (47, .bool (!decide (((ks.length : Nat) : Int) = 32)))] 3 ?_
  refine RunR.nn ?_
  refine RunC.condn (((ks.length : Nat) : Int) = 32) (by kernel_rfl) (fun h41 => ?_) (fun h41 => ?_)
  · skip
    refine RunC.sr ?_
    refine RunR.sl hU [] 3 3 [0, 2, 8, 9, 50] [(0, .slice A8 ks.length c8), (2, .bool false), (8, .slice A927 n931 c928), (9, .int .i64 e30), (50, .bool (decide (e30 = 1)))] 3 ?_
    refine RunR.ev [0, 2, 8, 9, 50] [(0, .slice A8 ks.length c8), (2, .bool false), (8, .slice A927 n931 c928), (9, .int .i64 e30), (50, .bool (decide (e30 = 1)))] ?_
    have hk42 : (e30 = 1) := by omega
    refine RunR.enveq [(0, .slice A8 ks.length c8), (2, .bool false), (8, .slice A927 n931 c928), (9, .int .i64 e30), (50, .bool true)] (by rw [decide_eq_true hk42]; try rfl) ?_
    refine RunR.sl hU [] 5 8 [0, 2, 8, 9] [(0, .slice A8 ks.length c8), (2, .bool (decide (((n931 : Nat) : Int) = 0))), (8, .slice A927 n931 c928), (9, .int .i64 e30)] 5 ?_
    refine RunR.ev [0, 2, 8, 9] [(0, .slice A8 ks.length c8), (2, .bool (decide (((n931 : Nat) : Int) = 0))), (8, .slice A927 n931 c928), (9, .int .i64 e30)] ?_
    have hk43 : (((n931 : Nat) : Int) = 0) := by omega
    refine RunR.enveq [(0, .slice A8 ks.length c8), (2, .bool true), (8, .slice A927 n931 c928), (9, .int .i64 e30)] (by rw [decide_eq_true hk43]; try rfl) ?_
    refine RunR.nn ?_
    refine RunC.ret ?_
    refine kseq_r ?_
    refine kret_r [.bool true] [] [] ⟨rfl, trivial⟩ (by kernel_rfl) rfl ⟨rfl, rfl⟩
  · skip
    refine RunC.ksr ?_
    refine RunR.sl hU [] 3 3 [0, 2, 8, 57] [(0, .slice A8 ks.length c8), (2, .bool false), (8, .slice A927 n931 c928), (57, .bool (decide (e30 = 0)))] 3 ?_
    refine RunR.ev [0, 2, 8, 57] [(0, .slice A8 ks.length c8), (2, .bool false), (8, .slice A927 n931 c928), (57, .bool (decide (e30 = 0)))] ?_
    have hk44 : (e30 = 0) := by omega
    refine RunR.enveq [(0, .slice A8 ks.length c8), (2, .bool false), (8, .slice A927 n931 c928), (57, .bool true)] (by rw [decide_eq_true hk44]; try rfl) ?_
    refine RunR.sl hU [] 2 5 [2, 57, 58, 59] [(2, .bool false), (57, .bool true), (58, .slice A927 n931 c928), (59, .slice A8 ks.length c8)] 2 ?_
    refine RunR.st (some 60) (.call { callee := .value (.func 38), args := #[.tmp 59], argTypes := #[23] }) (Step.cl 38 [.slice A8 ks.length c8] [] [vw A8 (nums .u8 ks)] [row 5 1 (.slice A927 n931 c928) n931 (nums .u8 zs29), row 5 1 (.slice A918 zs20.length c919) zs20.length (nums .u8 zs20), row 5 1 (.slice A99 zs11.length c910) zs11.length (nums .u8 zs11), row 5 1 (.slice Aq4 ks.length cq5) ks.length (nums .u8 ks), vw A8 (nums .u8 ks)] (kr_Clamp_spec A8 c8 ks ks.length hIks (by assumption) (by assumption) (by omega) (by rfl)) [] ((Lend.nil _).tells 4 (vw A8 (nums .u8 ks)) A8 (nums .u8 ks) (by kernel_rfl) (tells_vw _ _)) ?_)
    rintro _ _ ⟨A945, c946, zs47, n948, rfl, rfl, hp49, hp50, hp51, hp52, hp53, hp54⟩
    refine RunR.st (some 61) (.call { callee := .value (.func 34), args := #[.tmp 58, .tmp 60], argTypes := #[23, 23] }) (Step.cl 34 [.slice A927 n931 c928, .slice A945 n948 c946] [] [vw A927 (nums .u8 zs29), vw A945 (nums .u8 zs47)] [row 5 1 (.slice A945 n948 c946) n948 (nums .u8 zs47), row 5 1 (.slice A927 n931 c928) n931 (nums .u8 zs29), row 5 1 (.slice A918 zs20.length c919) zs20.length (nums .u8 zs20), row 5 1 (.slice A99 zs11.length c910) zs11.length (nums .u8 zs11), row 5 1 (.slice Aq4 ks.length cq5) ks.length (nums .u8 ks), vw A8 (nums .u8 ks)] (r_Equal_spec A927 c928 zs29 A945 c946 zs47 n931 n948 hp35 (by omega) hp52 (by omega) (by assumption) (by assumption)) [] (((Lend.nil _).tells 0 (row 5 1 (.slice A945 n948 c946) n948 (nums .u8 zs47)) A945 (nums .u8 zs47) (by kernel_rfl) (tells_row _ _ _ _ _ _)).tells 1 (row 5 1 (.slice A927 n931 c928) n931 (nums .u8 zs29)) A927 (nums .u8 zs29) (by kernel_rfl) (tells_row _ _ _ _ _ _)) ?_)
    rintro _ _ ⟨rfl, rfl⟩
    refine RunR.sl hU [] 2 9 [2] [(2, .bool (decide (zs29 = zs47)))] 2 ?_
    refine RunR.ev [2] [(2, .bool (decide (zs29 = zs47)))] ?_
    have hk55 : (zs29 = zs47) := by exact ((clamp_ok hp32 (by omega)).2).trans hp49.symm
    refine RunR.enveq [(2, .bool true)] (by rw [decide_eq_true hk55]; try rfl) ?_
    refine RunR.nn ?_
    refine RunC.ret ?_
    refine kret_r [.bool true] [] [] ⟨rfl, trivial⟩ (by kernel_rfl) rfl ⟨rfl, rfl⟩
end Go.Proofs.Ytaaplakahkgclaa.LCurvePoints
