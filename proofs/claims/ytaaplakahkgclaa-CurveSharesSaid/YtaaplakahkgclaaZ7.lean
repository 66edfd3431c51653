/- What these functions compute: a contract for each, walked through its code. -/
import Derived.Test.YtaaplakahkgclaaSLzh
import Derived.Test.YtaaplakahkgclaaKPure
import Derived.Test.YtaaplakahkgclaaProg
import Derived.Test.YtaaplakahkgclaaX1
import Derived.Test.YtaaplakahkgclaaX2
import Derived.Test.YtaaplakahkgclaaX3
import Derived.Test.YtaaplakahkgclaaX4
import Derived.Test.YtaaplakahkgclaaX5
import Derived.Test.YtaaplakahkgclaaX6
import Derived.Test.YtaaplakahkgclaaX7
import Derived.Test.YtaaplakahkgclaaX8
import Derived.Test.YtaaplakahkgclaaX9
import Derived.Test.YtaaplakahkgclaaY1
import Derived.Test.YtaaplakahkgclaaY2
import Derived.Test.YtaaplakahkgclaaY3
import Derived.Test.YtaaplakahkgclaaY4
import Derived.Test.YtaaplakahkgclaaY5
import Derived.Test.YtaaplakahkgclaaY6
import Derived.Test.YtaaplakahkgclaaZ1
import Derived.Test.YtaaplakahkgclaaZ2
import Derived.Test.YtaaplakahkgclaaZ3
import Derived.Test.YtaaplakahkgclaaZ4
import Derived.Test.YtaaplakahkgclaaZ5
import Derived.Test.YtaaplakahkgclaaZ6
namespace Go.Proofs.Ytaaplakahkgclaa.Z7
open Go Go.Proofs.Ytaaplakahkgclaa.SL Go.Proofs.Ytaaplakahkgclaa.SL.W Go.Proofs.Ytaaplakahkgclaa.SL.F Go.Proofs.Ytaaplakahkgclaa.SL.N Go.Proofs.Ytaaplakahkgclaa.SL.E Go.Proofs.Ytaaplakahkgclaa.SL.K Go.Proofs.Ytaaplakahkgclaa.X1 Go.Proofs.Ytaaplakahkgclaa.X2 Go.Proofs.Ytaaplakahkgclaa.X3 Go.Proofs.Ytaaplakahkgclaa.X4 Go.Proofs.Ytaaplakahkgclaa.X5 Go.Proofs.Ytaaplakahkgclaa.X6 Go.Proofs.Ytaaplakahkgclaa.X7 Go.Proofs.Ytaaplakahkgclaa.X8 Go.Proofs.Ytaaplakahkgclaa.X9 Go.Proofs.Ytaaplakahkgclaa.Y1 Go.Proofs.Ytaaplakahkgclaa.Y2 Go.Proofs.Ytaaplakahkgclaa.Y3 Go.Proofs.Ytaaplakahkgclaa.Y4 Go.Proofs.Ytaaplakahkgclaa.Y5 Go.Proofs.Ytaaplakahkgclaa.Y6 Go.Proofs.Ytaaplakahkgclaa.Z1 Go.Proofs.Ytaaplakahkgclaa.Z2 Go.Proofs.Ytaaplakahkgclaa.Z3 Go.Proofs.Ytaaplakahkgclaa.Z4 Go.Proofs.Ytaaplakahkgclaa.Z5 Go.Proofs.Ytaaplakahkgclaa.Z6
set_option linter.unusedVariables false
set_option linter.unusedSimpArgs false
set_option maxRecDepth 100000
set_option maxHeartbeats 40000000
def U : Tab where
  und := [(3, .int .i64), (5, .int .u8), (23, .slice 5), (33, .int .i64), (91, .array 32 3), (92, .array 32 3)]
  fld := []
  sz := [(3, 1), (5, 1), (23, 1), (33, 1), (91, 32), (92, 32)]
  ti := [(3, (1, 8, .int .i64 0)), (5, (1, 1, .int .u8 0)), (23, (1, 24, .slice none 0 0)), (33, (1, 8, .int .i64 0)), (91, (32, 256, z32)), (92, (32, 256, z32))]
  bld := []

theorem hU : U.OK Try.prog where
  und := by
    intro p hp
    simp only [U, List.mem_cons, List.not_mem_nil, or_false] at hp
    rcases hp with rfl | rfl | rfl | rfl | rfl | rfl
    · exact Try.underlying3
    · exact Try.underlying5
    · exact Try.underlying23
    · exact Try.underlying33
    · exact Try.underlying91
    · exact Try.underlying92
  fld := by
    intro p hp; cases hp
  sz := by
    intro p hp
    simp only [U, List.mem_cons, List.not_mem_nil, or_false] at hp
    rcases hp with rfl | rfl | rfl | rfl | rfl | rfl
    · exact ⟨Try.prog.types[3]!, by kernel_rfl, by kernel_rfl⟩
    · exact ⟨Try.prog.types[5]!, by kernel_rfl, by kernel_rfl⟩
    · exact ⟨Try.prog.types[23]!, by kernel_rfl, by kernel_rfl⟩
    · exact ⟨Try.prog.types[33]!, by kernel_rfl, by kernel_rfl⟩
    · exact ⟨Try.prog.types[91]!, by kernel_rfl, by kernel_rfl⟩
    · exact ⟨Try.prog.types[92]!, by kernel_rfl, by kernel_rfl⟩
  ti := by
    intro p hp
    simp only [U, List.mem_cons, List.not_mem_nil, or_false] at hp
    rcases hp with rfl | rfl | rfl | rfl | rfl | rfl
    · exact ⟨Try.prog.types[3]!, by kernel_rfl, by kernel_rfl, by kernel_rfl, by kernel_rfl⟩
    · exact ⟨Try.prog.types[5]!, by kernel_rfl, by kernel_rfl, by kernel_rfl, by kernel_rfl⟩
    · exact ⟨Try.prog.types[23]!, by kernel_rfl, by kernel_rfl, by kernel_rfl, by kernel_rfl⟩
    · exact ⟨Try.prog.types[33]!, by kernel_rfl, by kernel_rfl, by kernel_rfl, by kernel_rfl⟩
    · exact ⟨Try.prog.types[91]!, by kernel_rfl, by kernel_rfl, by kernel_rfl, by kernel_rfl⟩
    · exact ⟨Try.prog.types[92]!, by kernel_rfl, by kernel_rfl, by kernel_rfl, by kernel_rfl⟩
  bld := by
    intro p hp; cases hp
  mixed := by kernel_rfl

theorem k_Shared_spec (A8 : Option Addr) (c8 : Nat) (ks : List Int) (A7 : Option Addr) (c7 : Nat) (ps : List Int) (l_ks : Nat) (l_ps : Nat) (hIks : In .u8 ks) (hCks : ks.length ≤ c8) (hBks : ks.length ≤ 140737488351232) (hIps : In .u8 ps) (hCps : ps.length ≤ c7) (hBps : ps.length ≤ 140737488351232) (hl_ks : ks.length = l_ks) (hl_ps : ps.length = l_ps) :
    CallsS Try.prog 32 [.slice A8 l_ks c8, .slice A7 l_ps c7] [vw A8 (nums .u8 ks), vw A7 (nums .u8 ps)] (fun r D => ∃ (A9 : Option Addr) (c9 : Nat) (zs : List Int) (e : Int), r = .tuple #[.slice A9 zs.length c9, .int .i64 e] ∧ D = [row 5 1 (.slice A9 zs.length c9) zs.length (nums .u8 zs)] ∧ (ShareS ks ps e zs) ∧ (zs.length ≤ 32) ∧ (In .u8 zs) ∧ (zs.length ≤ c9) ∧ (0 < zs.length → Option.isSome A9 = true)) := by
  subst hl_ks
  subst hl_ps
  refine CallsS.enter hU Try.f32 _ [.tmp 4, .tmp 5] 31 Try.func32 rfl (by decide) rfl rfl (by kernel_rfl) fun w0 W => ?_
  refine RunC.know (p := 0 < ks.length → Option.isSome A8 = true) (fun _ _ w hs => vw_some hs 0 rfl (by (simp [nums_length]; done))) (fun hA1 => ?_)
  refine RunC.know (p := 0 < ps.length → Option.isSome A7 = true) (fun _ _ w hs => vw_some hs 1 rfl (by (simp [nums_length]; done))) (fun hA2 => ?_)
  refine RunC.sr ?_
  refine RunR.sl hU [] 2 2 [0, 1, 4, 5] [(0, .slice A8 ks.length c8), (1, .slice A7 ps.length c7), (4, .slice none 0 0), (5, .int .i64 0)] 2 ?_
  refine RunR.nx ?_
  refine RunR.sl hU [] 1 1 [1, 4, 5, 10] [(1, .slice A7 ps.length c7), (4, .slice none 0 0), (5, .int .i64 0), (10, .slice A8 ks.length c8)] 1 ?_
  refine RunR.st (some 11) (.call { callee := .value (.func 37), args := #[.tmp 10], argTypes := #[23] }) (Step.cl 37 [.slice A8 ks.length c8] [] [vw A8 (nums .u8 ks)] [vw A8 (nums .u8 ks), vw A7 (nums .u8 ps)] (k_Clamp_spec A8 c8 ks ks.length hIks (by assumption) (by assumption) (by rfl)) [] ((Lend.nil _).tells 0 (vw A8 (nums .u8 ks)) A8 (nums .u8 ks) (by kernel_rfl) (tells_vw _ _)) ?_)
  rintro _ _ ⟨A93, c94, zs5, e6, n97, rfl, rfl, hp8, hp9, hp10, hp11, hp12, hp13⟩
  refine RunR.sl hU [] 5 7 [1, 4, 5, 6, 7] [(1, .slice A7 ps.length c7), (4, .slice none 0 0), (5, .int .i64 0), (6, .slice A93 n97 c94), (7, .int .i64 e6)] 5 ?_
  refine RunR.nn ?_
  refine RunC.seq ?_
  refine RunC.sr ?_
  refine RunR.sl hU [] 3 3 [1, 4, 5, 6, 16] [(1, .slice A7 ps.length c7), (4, .slice none 0 0), (5, .int .i64 0), (6, .slice A93 n97 c94), (16, .bool (!decide (e6 = 0)))] 3 ?_
  refine RunR.ev [1, 4, 5, 6, 16] [(1, .slice A7 ps.length c7), (4, .slice none 0 0), (5, .int .i64 0), (6, .slice A93 n97 c94), (16, .bool (!decide (e6 = 0)))] ?_
  by_cases h14 : e6 = 0
  · skip
    refine RunR.enveq [(1, .slice A7 ps.length c7), (4, .slice none 0 0), (5, .int .i64 0), (6, .slice A93 n97 c94), (16, .bool false)] (by rw [decide_eq_true h14]; try rfl) ?_
    refine RunR.sl hU [] 4 7 [1, 4, 5, 6, 20] [(1, .slice A7 ps.length c7), (4, .slice none 0 0), (5, .int .i64 0), (6, .slice A93 n97 c94), (20, .bool (!decide (((ps.length : Nat) : Int) = 32)))] 4 ?_
    refine RunR.nn ?_
    refine RunC.condn (((ps.length : Nat) : Int) = 32) (by kernel_rfl) (fun h15 => ?_) (fun h15 => ?_)
    · skip
      refine RunC.sr ?_
      refine RunR.sl hU [] 2 2 [1, 4, 5, 6] [(1, .slice A7 ps.length c7), (4, .slice none 0 0), (5, .int .i64 1), (6, .slice A93 n97 c94)] 2 ?_
      refine RunR.nn ?_
      refine RunC.ret ?_
      refine kseq_r ?_
      refine kret_rt ([row 5 1 (.slice none 0 0) 0 (nums .u8 ([] : List Int)), row 5 1 (.slice A93 n97 c94) n97 (nums .u8 zs5), vw A8 (nums .u8 ks), vw A7 (nums .u8 ps)]) (fun w0 W w hs => (hs).nil_row 5 1) [.slice none 0 0, .int .i64 1] [0] [row 5 1 (.slice none 0 0) 0 (nums .u8 ([] : List Int))] ⟨rfl, rfl, trivial⟩ (by kernel_rfl) rfl ⟨none, 0, [], 1, rfl, rfl, (by exact share_bad (by omega)), (by exact Nat.zero_le _), (by exact In.nil _), (by exact Nat.le_refl _), (by intro h; simp at h)⟩
    · skip
      refine RunC.ksr ?_
      refine RunR.sl hU [] 2 2 [4, 5, 21, 22] [(4, .slice none 0 0), (5, .int .i64 0), (21, .slice A93 n97 c94), (22, .slice A7 ps.length c7)] 2 ?_
      refine RunR.st (some 23) (.call { callee := .value (.func 58), args := #[.tmp 22], argTypes := #[23] }) (Step.cl 58 [.slice A7 ps.length c7] [] [vw A7 (nums .u8 ps)] [row 5 1 (.slice A93 n97 c94) n97 (nums .u8 zs5), vw A8 (nums .u8 ks), vw A7 (nums .u8 ps)] (f_From_spec A7 c7 ps ps.length hIps (by assumption) (by rfl)) [] ((Lend.nil _).tells 2 (vw A7 (nums .u8 ps)) A7 (nums .u8 ps) (by kernel_rfl) (tells_vw _ _)) ?_)
      rintro _ _ ⟨zs16, rfl, rfl, hp17, hp18⟩
      refine RunR.st (some 24) (.call { callee := .value (.func 57), args := #[.tmp 21, .tmp 23], argTypes := #[23, 89] }) (Step.cl 57 [.slice A93 n97 c94, ag .u64 zs16] [] [vw A93 (nums .u8 zs5)] [row 5 1 (.slice A93 n97 c94) n97 (nums .u8 zs5), vw A8 (nums .u8 ks), vw A7 (nums .u8 ps)] (k_climb_spec A93 c94 zs5 zs16 (fromV ps % P) n97 hp11 (by omega) (by omega) (by omega) (by assumption) (by assumption) (by assumption)) [] ((Lend.nil _).tells 0 (row 5 1 (.slice A93 n97 c94) n97 (nums .u8 zs5)) A93 (nums .u8 zs5) (by kernel_rfl) (tells_row _ _ _ _ _ _)) ?_)
      rintro _ _ ⟨A919, c920, zs21, rfl, rfl, hp22, hp23, hp24, hp25, hp26⟩
      refine RunR.sl hU [] 1 5 [4, 5, 8] [(4, .slice none 0 0), (5, .int .i64 0), (8, .slice A919 zs21.length c920)] 1 ?_
      refine RunR.nn ?_
      refine RunC.seq ?_
      refine RunC.sr ?_
      refine RunR.sl hU [] 3 3 [4, 5, 8, 25, 27] [(4, .slice none 0 0), (5, .int .i64 0), (8, .slice A919 zs21.length c920), (25, .slice A919 zs21.length c920), (27, .int .i64 ((zs21.length : Nat) : Int))] 3 ?_
      refine RunR.st (some 28) (.makeSlice 23 (.tmp 27) (.tmp 27)) (Step.make_nums hU 5 1 .u8 .i64 .i64 (((zs21.length : Nat) : Int)) rfl rfl (by kernel_rfl) (by kernel_rfl) (by omega) (by omega) (by kernel_rfl) (fun b27 => ?_))
      have hl28 : (List.replicate ((((zs21.length : Nat) : Int)).toNat) (0 : Int)).length = (((zs21.length : Nat) : Int)).toNat := List.length_replicate
      refine RunR.st (some 29) (.call { callee := .value (.func 59), args := #[.tmp 25, .tmp 28], argTypes := #[23, 23] }) (Step.cl 59 [.slice A919 zs21.length c920, .slice (some ⟨b27, 0, none⟩) ((((zs21.length : Nat) : Int)).toNat) ((((zs21.length : Nat) : Int)).toNat)] [] [vw A919 (nums .u8 zs21), vw (some ⟨b27, 0, none⟩) (nums .u8 (List.replicate ((((zs21.length : Nat) : Int)).toNat) (0 : Int)))] [row 5 1 (.slice (some ⟨b27, 0, none⟩) ((((zs21.length : Nat) : Int)).toNat) ((((zs21.length : Nat) : Int)).toNat)) ((((zs21.length : Nat) : Int)).toNat) (nums .u8 (List.replicate ((((zs21.length : Nat) : Int)).toNat) (0 : Int))), row 5 1 (.slice A919 zs21.length c920) zs21.length (nums .u8 zs21), row 5 1 (.slice A93 n97 c94) n97 (nums .u8 zs5), vw A8 (nums .u8 ks), vw A7 (nums .u8 ps)] (w_Equal_spec A919 c920 zs21 (some ⟨b27, 0, none⟩) ((((zs21.length : Nat) : Int)).toNat) (List.replicate ((((zs21.length : Nat) : Int)).toNat) (0 : Int)) zs21.length ((((zs21.length : Nat) : Int)).toNat) hp24 (by omega) (by (repeat with_reducible exact In.replicate _ _)) (by omega) (by rfl) (by assumption)) [] (((Lend.nil _).tells 0 (row 5 1 (.slice (some ⟨b27, 0, none⟩) ((((zs21.length : Nat) : Int)).toNat) ((((zs21.length : Nat) : Int)).toNat)) ((((zs21.length : Nat) : Int)).toNat) (nums .u8 (List.replicate ((((zs21.length : Nat) : Int)).toNat) (0 : Int)))) (some ⟨b27, 0, none⟩) (nums .u8 (List.replicate ((((zs21.length : Nat) : Int)).toNat) (0 : Int))) (by kernel_rfl) (tells_row _ _ _ _ _ _)).tells 1 (row 5 1 (.slice A919 zs21.length c920) zs21.length (nums .u8 zs21)) A919 (nums .u8 zs21) (by kernel_rfl) (tells_row _ _ _ _ _ _)) ?_)
      rintro _ _ ⟨rfl, rfl⟩
      refine RunR.nn ?_
      refine RunC.condp (zs21 = (List.replicate ((((zs21.length : Nat) : Int)).toNat) (0 : Int))) (by kernel_rfl) (fun h29 => ?_) (fun h29 => ?_)
      · skip
        refine RunC.sr ?_
        refine RunR.sl hU [] 2 2 [4, 5, 8] [(4, .slice none 0 0), (5, .int .i64 10), (8, .slice A919 zs21.length c920)] 2 ?_
        refine RunR.nn ?_
        refine RunC.ret ?_
        refine kseq_r ?_
        refine kret_rt ([row 5 1 (.slice none 0 0) 0 (nums .u8 ([] : List Int)), row 5 1 (.slice (some ⟨b27, 0, none⟩) ((((zs21.length : Nat) : Int)).toNat) ((((zs21.length : Nat) : Int)).toNat)) ((((zs21.length : Nat) : Int)).toNat) (nums .u8 (List.replicate ((((zs21.length : Nat) : Int)).toNat) (0 : Int))), row 5 1 (.slice A919 zs21.length c920) zs21.length (nums .u8 zs21), row 5 1 (.slice A93 n97 c94) n97 (nums .u8 zs5), vw A8 (nums .u8 ks), vw A7 (nums .u8 ps)]) (fun w0 W w hs => (hs).nil_row 5 1) [.slice none 0 0, .int .i64 10] [0] [row 5 1 (.slice none 0 0) 0 (nums .u8 ([] : List Int))] ⟨rfl, rfl, trivial⟩ (by kernel_rfl) rfl ⟨none, 0, [], 10, rfl, rfl, (by exact share_low ((clamp_ok hp8 (by omega)).1) (by omega) ((clamp_ok hp8 (by omega)).2) hp22 (by assumption) (dg_rep (by assumption))), (by exact Nat.zero_le _), (by exact In.nil _), (by exact Nat.le_refl _), (by intro h; simp at h)⟩
      · skip
        refine RunC.ksr ?_
        refine RunR.sl hU [] 3 3 [4, 5] [(4, .slice A919 zs21.length c920), (5, .int .i64 0)] 3 ?_
        refine RunR.nn ?_
        refine RunC.ret ?_
        refine kret_r [.slice A919 zs21.length c920, .int .i64 0] [1] [row 5 1 (.slice A919 zs21.length c920) zs21.length (nums .u8 zs21)] ⟨rfl, rfl, trivial⟩ (by kernel_rfl) rfl ⟨A919, c920, zs21, 0, rfl, rfl, (by exact share_end ((clamp_ok hp8 (by omega)).1) (by omega) ((clamp_ok hp8 (by omega)).2) (by assumption) (by assumption) (dg_rep (by assumption)) (by assumption)), (by omega), hp24, (by assumption), (fun h => hp26 (by exact h))⟩
  · skip
    refine RunR.enveq [(1, .slice A7 ps.length c7), (4, .slice none 0 0), (5, .int .i64 0), (6, .slice A93 n97 c94), (16, .bool true)] (by rw [decide_eq_false h14]; try rfl) ?_
    refine RunR.sl hU [] 4 7 [1, 4, 5, 6, 20] [(1, .slice A7 ps.length c7), (4, .slice none 0 0), (5, .int .i64 0), (6, .slice A93 n97 c94), (20, .bool true)] 1 ?_
    refine RunR.nn ?_
    refine RunC.cond (b := true) (by kernel_rfl) (fun _ => ?_) (fun h => by cases h)
    refine RunC.sr ?_
    refine RunR.sl hU [] 2 2 [1, 4, 5, 6] [(1, .slice A7 ps.length c7), (4, .slice none 0 0), (5, .int .i64 1), (6, .slice A93 n97 c94)] 2 ?_
    refine RunR.nn ?_
    refine RunC.ret ?_
    refine kseq_r ?_
    refine kret_rt ([row 5 1 (.slice none 0 0) 0 (nums .u8 ([] : List Int)), row 5 1 (.slice A93 n97 c94) n97 (nums .u8 zs5), vw A8 (nums .u8 ks), vw A7 (nums .u8 ps)]) (fun w0 W w hs => (hs).nil_row 5 1) [.slice none 0 0, .int .i64 1] [0] [row 5 1 (.slice none 0 0) 0 (nums .u8 ([] : List Int))] ⟨rfl, rfl, trivial⟩ (by kernel_rfl) rfl ⟨none, 0, [], 1, rfl, rfl, (by exact share_bad (fun h => (clamp_bad hp8 (by assumption)).1 h.1)), (by exact Nat.zero_le _), (by exact In.nil _), (by exact Nat.le_refl _), (by intro h; simp at h)⟩

theorem kr_Shared_spec (A8 : Option Addr) (c8 : Nat) (ks : List Int) (A7 : Option Addr) (c7 : Nat) (ps : List Int) (l_ks : Nat) (l_ps : Nat) (hIks : In .u8 ks) (hCks : ks.length ≤ c8) (hBks : ks.length ≤ 140737488351232) (hIps : In .u8 ps) (hCps : ps.length ≤ c7) (hBps : ps.length ≤ 140737488351232) (hl_ks : ks.length = l_ks) (hl_ps : ps.length = l_ps) :
    CallsS Try.prog 33 [.slice A8 l_ks c8, .slice A7 l_ps c7] [vw A8 (nums .u8 ks), vw A7 (nums .u8 ps)] (fun r D => ∃ (A9 : Option Addr) (c9 : Nat) (zs : List Int) (e : Int), r = .tuple #[.slice A9 zs.length c9, .int .i64 e] ∧ D = [row 5 1 (.slice A9 zs.length c9) zs.length (nums .u8 zs)] ∧ (ShareS ks ps e zs) ∧ (zs.length ≤ 32) ∧ (In .u8 zs) ∧ (zs.length ≤ c9) ∧ (0 < zs.length → Option.isSome A9 = true)) := by
  subst hl_ks
  subst hl_ps
  refine CallsS.enter hU Try.f33 _ [.tmp 4, .tmp 5] 25 Try.func33 rfl (by decide) rfl rfl (by kernel_rfl) fun w0 W => ?_
  refine RunC.know (p := 0 < ks.length → Option.isSome A8 = true) (fun _ _ w hs => vw_some hs 0 rfl (by (simp [nums_length]; done))) (fun hA1 => ?_)
  refine RunC.know (p := 0 < ps.length → Option.isSome A7 = true) (fun _ _ w hs => vw_some hs 1 rfl (by (simp [nums_length]; done))) (fun hA2 => ?_)
  refine RunC.sr ?_
  refine RunR.sl hU [] 2 2 [0, 1, 4, 5] [(0, .slice A8 ks.length c8), (1, .slice A7 ps.length c7), (4, .slice none 0 0), (5, .int .i64 0)] 2 ?_
  refine RunR.nn ?_
  refine RunC.seq ?_
  refine RunC.sr ?_
  refine RunR.sl hU [] 4 4 [0, 1, 4, 5, 10] [(0, .slice A8 ks.length c8), (1, .slice A7 ps.length c7), (4, .slice none 0 0), (5, .int .i64 0), (10, .bool (!decide (((ks.length : Nat) : Int) = 32)))] 4 ?_
  refine RunR.ev [0, 1, 4, 5, 10] [(0, .slice A8 ks.length c8), (1, .slice A7 ps.length c7), (4, .slice none 0 0), (5, .int .i64 0), (10, .bool (!decide (((ks.length : Nat) : Int) = 32)))] ?_
  by_cases h3 : ((ks.length : Nat) : Int) = 32
  · skip
    refine RunR.enveq [(0, .slice A8 ks.length c8), (1, .slice A7 ps.length c7), (4, .slice none 0 0), (5, .int .i64 0), (10, .bool false)] (by rw [decide_eq_true h3]; try rfl) ?_
    refine RunR.sl hU [] 4 8 [0, 1, 4, 5, 14] [(0, .slice A8 ks.length c8), (1, .slice A7 ps.length c7), (4, .slice none 0 0), (5, .int .i64 0), (14, .bool (!decide (((ps.length : Nat) : Int) = 32)))] 4 ?_
    refine RunR.nn ?_
    refine RunC.condn (((ps.length : Nat) : Int) = 32) (by kernel_rfl) (fun h4 => ?_) (fun h4 => ?_)
    · skip
      refine RunC.sr ?_
      refine RunR.sl hU [] 2 2 [0, 1, 4, 5] [(0, .slice A8 ks.length c8), (1, .slice A7 ps.length c7), (4, .slice none 0 0), (5, .int .i64 1)] 2 ?_
      refine RunR.nn ?_
      refine RunC.ret ?_
      refine kseq_r ?_
      refine kret_rt ([row 5 1 (.slice none 0 0) 0 (nums .u8 ([] : List Int)), vw A8 (nums .u8 ks), vw A7 (nums .u8 ps)]) (fun w0 W w hs => (hs).nil_row 5 1) [.slice none 0 0, .int .i64 1] [0] [row 5 1 (.slice none 0 0) 0 (nums .u8 ([] : List Int))] ⟨rfl, rfl, trivial⟩ (by kernel_rfl) rfl ⟨none, 0, [], 1, rfl, rfl, (by exact share_bad (by omega)), (by exact Nat.zero_le _), (by exact In.nil _), (by exact Nat.le_refl _), (by intro h; simp at h)⟩
    · skip
      refine RunC.ksr ?_
      refine RunR.sl hU [] 1 1 [1, 4, 5, 15] [(1, .slice A7 ps.length c7), (4, .slice none 0 0), (5, .int .i64 0), (15, .slice A8 ks.length c8)] 1 ?_
      refine RunR.st (some 16) (.call { callee := .value (.func 38), args := #[.tmp 15], argTypes := #[23] }) (Step.cl 38 [.slice A8 ks.length c8] [] [vw A8 (nums .u8 ks)] [vw A8 (nums .u8 ks), vw A7 (nums .u8 ps)] (kr_Clamp_spec A8 c8 ks ks.length hIks (by assumption) (by assumption) (by omega) (by rfl)) [] ((Lend.nil _).tells 0 (vw A8 (nums .u8 ks)) A8 (nums .u8 ks) (by kernel_rfl) (tells_vw _ _)) ?_)
      rintro _ _ ⟨A95, c96, zs7, n98, rfl, rfl, hp9, hp10, hp11, hp12, hp13, hp14⟩
      refine RunR.sl hU [] 1 3 [4, 5, 16, 17] [(4, .slice none 0 0), (5, .int .i64 0), (16, .slice A95 n98 c96), (17, .slice A7 ps.length c7)] 1 ?_
      refine RunR.st (some 18) (.call { callee := .value (.func 61), args := #[.tmp 17], argTypes := #[23] }) (Step.cl 61 [.slice A7 ps.length c7] [] [vw A7 (nums .u8 ps)] [row 5 1 (.slice A95 n98 c96) n98 (nums .u8 zs7), vw A8 (nums .u8 ks), vw A7 (nums .u8 ps)] (n_From_spec A7 c7 ps ps.length hIps (by assumption) (by rfl)) [] ((Lend.nil _).tells 2 (vw A7 (nums .u8 ps)) A7 (nums .u8 ps) (by kernel_rfl) (tells_vw _ _)) ?_)
      rintro _ _ ⟨zs15, rfl, rfl, hp16, hp17⟩
      refine RunR.st (some 19) (.call { callee := .value (.func 60), args := #[.tmp 16, .tmp 18], argTypes := #[23, 92] }) (Step.cl 60 [.slice A95 n98 c96, ag .i64 zs15] [] [vw A95 (nums .u8 zs7)] [row 5 1 (.slice A95 n98 c96) n98 (nums .u8 zs7), vw A8 (nums .u8 ks), vw A7 (nums .u8 ps)] (kr_Ladder_spec A95 c96 zs7 zs15 (fromV ps % P) n98 hp12 (by omega) (by omega) (by omega) (by assumption) (by assumption) (by exact Int.emod_lt_of_pos _ (by decide)) (by assumption)) [] ((Lend.nil _).tells 0 (row 5 1 (.slice A95 n98 c96) n98 (nums .u8 zs7)) A95 (nums .u8 zs7) (by kernel_rfl) (tells_row _ _ _ _ _ _)) ?_)
      rintro _ _ ⟨zs18, rfl, rfl, hp19, hp20⟩
      refine RunR.st (some 6) (.alloc 92) (Step.al hU 32 256 z32 (fun b21 => ?_))
      have hl22 : (List.replicate 32 (0 : Int)).length = 32 := List.length_replicate
      refine RunR.st none (.store 92 (.tmp 6) (.tmp 19)) (Step.store_arr hU 0 b21 92 32 .i64 (List.replicate 32 (0 : Int)) zs18 (by kernel_rfl) (by kernel_rfl) (by kernel_rfl) (by kernel_rfl) (by rfl) (by omega) ?_)
      refine RunR.nn ?_
      refine RunC.seq ?_
      refine RunC.seq ?_
      refine RunC.regionU hU 3 [blk b21 92 (nums .i64 zs18)] [0] [2] (bm 3 0) (by kernel_rfl) (by kernel_rfl) (by kernel_rfl) ?_
      refine RunU.rd 0 (bm 3 1) 20 (.load 92 (.tmp 6)) (ag .i64 zs18) [0] (Reads.load_arr hU 0 b21 92 32 .i64 zs18 (by kernel_rfl) (by kernel_rfl) (by kernel_rfl) (by kernel_rfl) (by omega)) ?_
      refine RunU.on (some 21) (.call { callee := .value (.func 62), args := #[.const (.int .u32 0)], argTypes := #[96] }) 1 (bm 3 3) [0] (Step.cn 62 [.int .u32 0] [] [blk b21 92 (nums .i64 zs18), row 5 1 (.slice A95 n98 c96) n98 (nums .u8 zs7), vw A8 (nums .u8 ks), vw A7 (nums .u8 ps)] (n_Small_spec 0 (by (refine ⟨?_, ?_⟩ <;> omega))) [] ?_)
      rintro _ _ ⟨zs23, rfl, rfl, hp24, hp25⟩
      refine orL ?_
      refine RunU.on (some 22) (.binOp .eql 92 (.tmp 20) (.tmp 21) 92) 2 (bm 3 7) [] (Step.arr_eql hU (e := 3) 32 8 .i64 .i64 .i64 zs18 zs23 (by kernel_rfl) (by kernel_rfl) (by kernel_rfl) (by kernel_rfl) (by kernel_rfl) (by assumption) (by assumption) (by kernel_rfl) ?_)
      refine orR ?_
      refine RunU.ev [4, 5, 6, 22] [(4, .slice none 0 0), (5, .int .i64 0), (6, pt b21), (22, .bool (decide (zs18 = zs23)))] ?_
      refine RunU.dn ?_
      refine kseq_n ?_
      refine RunC.condp (zs18 = zs23) (by kernel_rfl) (fun h26 => ?_) (fun h26 => ?_)
      · skip
        refine RunC.sr ?_
        refine RunR.sl hU [] 2 2 [4, 5, 6] [(4, .slice none 0 0), (5, .int .i64 10), (6, pt b21)] 2 ?_
        refine RunR.nn ?_
        refine RunC.ret ?_
        refine kseq_r ?_
        refine kret_rt ([row 5 1 (.slice none 0 0) 0 (nums .u8 ([] : List Int)), blk b21 92 (nums .i64 zs18), row 5 1 (.slice A95 n98 c96) n98 (nums .u8 zs7), vw A8 (nums .u8 ks), vw A7 (nums .u8 ps)]) (fun w0 W w hs => (hs).nil_row 5 1) [.slice none 0 0, .int .i64 10] [0] [row 5 1 (.slice none 0 0) 0 (nums .u8 ([] : List Int))] ⟨rfl, rfl, trivial⟩ (by kernel_rfl) rfl ⟨none, 0, [], 10, rfl, rfl, (by exact share_low (by omega) (by omega) hp9 hp19 (by assumption) (by assumption)), (by exact Nat.zero_le _), (by exact In.nil _), (by exact Nat.le_refl _), (by intro h; simp at h)⟩
      · skip
        refine RunC.ksr ?_
        refine RunR.st (some 23) (.load 92 (.tmp 6)) (Step.load_arr hU 0 b21 92 32 .i64 zs18 (by kernel_rfl) (by kernel_rfl) (by kernel_rfl) (by kernel_rfl) (by omega) (by kernel_rfl) ?_)
        refine RunR.st (some 24) (.call { callee := .value (.func 63), args := #[.tmp 23], argTypes := #[92] }) (Step.cn 63 [ag .i64 zs18] [] [blk b21 92 (nums .i64 zs18), row 5 1 (.slice A95 n98 c96) n98 (nums .u8 zs7), vw A8 (nums .u8 ks), vw A7 (nums .u8 ps)] (n_Bytes_spec zs18 (ladR zs7 (fromV ps % P)) (by assumption) (by assumption)) [] ?_)
        rintro _ _ ⟨Aq27, cb28, zs29, rfl, rfl, hp30, hp31, hp32, hp33, hp34⟩
        refine RunR.sl hU [] 2 4 [4, 5] [(4, .slice Aq27 zs29.length cb28), (5, .int .i64 0)] 2 ?_
        refine RunR.nn ?_
        refine RunC.ret ?_
        refine kret_r [.slice Aq27 zs29.length cb28, .int .i64 0] [0] [row 5 1 (.slice Aq27 zs29.length cb28) zs29.length (nums .u8 zs29)] ⟨rfl, rfl, trivial⟩ (by kernel_rfl) rfl ⟨Aq27, cb28, zs29, 0, rfl, rfl, (by exact share_end (by omega) (by omega) hp9 (by assumption) (by assumption) (by assumption) (by assumption)), (by omega), hp32, (by assumption), (fun h => hp34 (by exact h))⟩
  · skip
    refine RunR.enveq [(0, .slice A8 ks.length c8), (1, .slice A7 ps.length c7), (4, .slice none 0 0), (5, .int .i64 0), (10, .bool true)] (by rw [decide_eq_false h3]; try rfl) ?_
    refine RunR.sl hU [] 4 8 [0, 1, 4, 5, 14] [(0, .slice A8 ks.length c8), (1, .slice A7 ps.length c7), (4, .slice none 0 0), (5, .int .i64 0), (14, .bool true)] 1 ?_
    refine RunR.nn ?_
    refine RunC.cond (b := true) (by kernel_rfl) (fun _ => ?_) (fun h => by cases h)
    refine RunC.sr ?_
    refine RunR.sl hU [] 2 2 [0, 1, 4, 5] [(0, .slice A8 ks.length c8), (1, .slice A7 ps.length c7), (4, .slice none 0 0), (5, .int .i64 1)] 2 ?_
    refine RunR.nn ?_
    refine RunC.ret ?_
    refine kseq_r ?_
    refine kret_rt ([row 5 1 (.slice none 0 0) 0 (nums .u8 ([] : List Int)), vw A8 (nums .u8 ks), vw A7 (nums .u8 ps)]) (fun w0 W w hs => (hs).nil_row 5 1) [.slice none 0 0, .int .i64 1] [0] [row 5 1 (.slice none 0 0) 0 (nums .u8 ([] : List Int))] ⟨rfl, rfl, trivial⟩ (by kernel_rfl) rfl ⟨none, 0, [], 1, rfl, rfl, (by exact share_bad (by omega)), (by exact Nat.zero_le _), (by exact In.nil _), (by exact Nat.le_refl _), (by intro h; simp at h)⟩

theorem k_Public_spec (A8 : Option Addr) (c8 : Nat) (ks : List Int) (l_ks : Nat) (hIks : In .u8 ks) (hCks : ks.length ≤ c8) (hBks : ks.length ≤ 140737488351232) (hl_ks : ks.length = l_ks) :
    CallsS Try.prog 35 [.slice A8 l_ks c8] [vw A8 (nums .u8 ks)] (fun r D => ∃ (A9 : Option Addr) (c9 : Nat) (zs : List Int) (e : Int), r = .tuple #[.slice A9 zs.length c9, .int .i64 e] ∧ D = [row 5 1 (.slice A9 zs.length c9) zs.length (nums .u8 zs)] ∧ (PubS ks e zs) ∧ (zs.length ≤ 32) ∧ (In .u8 zs) ∧ (zs.length ≤ c9) ∧ (0 < zs.length → Option.isSome A9 = true)) := by
  subst hl_ks
  refine CallsS.enter hU Try.f35 _ [.tmp 2, .tmp 3] 18 Try.func35 rfl (by decide) rfl rfl (by kernel_rfl) fun w0 W => ?_
  refine RunC.know (p := 0 < ks.length → Option.isSome A8 = true) (fun _ _ w hs => vw_some hs 0 rfl (by (simp [nums_length]; done))) (fun hA1 => ?_)
  refine RunC.sr ?_
  refine RunR.sl hU [] 2 2 [0, 2, 3] [(0, .slice A8 ks.length c8), (2, .slice none 0 0), (3, .int .i64 0)] 2 ?_
  refine RunR.nx ?_
  refine RunR.sl hU [] 1 1 [2, 3, 7] [(2, .slice none 0 0), (3, .int .i64 0), (7, .slice A8 ks.length c8)] 1 ?_
  refine RunR.st (some 8) (.call { callee := .value (.func 37), args := #[.tmp 7], argTypes := #[23] }) (Step.cl 37 [.slice A8 ks.length c8] [] [vw A8 (nums .u8 ks)] [vw A8 (nums .u8 ks)] (k_Clamp_spec A8 c8 ks ks.length hIks (by assumption) (by assumption) (by rfl)) [] ((Lend.nil _).tells 0 (vw A8 (nums .u8 ks)) A8 (nums .u8 ks) (by kernel_rfl) (tells_vw _ _)) ?_)
  rintro _ _ ⟨A92, c93, zs4, e5, n96, rfl, rfl, hp7, hp8, hp9, hp10, hp11, hp12⟩
  refine RunR.sl hU [] 5 7 [2, 3, 4, 5] [(2, .slice none 0 0), (3, .int .i64 0), (4, .slice A92 n96 c93), (5, .int .i64 e5)] 5 ?_
  refine RunR.nn ?_
  refine RunC.seq ?_
  refine RunC.sr ?_
  refine RunR.sl hU [] 2 2 [2, 3, 4, 5, 12] [(2, .slice none 0 0), (3, .int .i64 0), (4, .slice A92 n96 c93), (5, .int .i64 e5), (12, .bool (!decide (e5 = 0)))] 2 ?_
  refine RunR.nn ?_
  refine RunC.condn (e5 = 0) (by kernel_rfl) (fun h13 => ?_) (fun h13 => ?_)
  · skip
    refine RunC.sr ?_
    refine RunR.sl hU [] 3 3 [2, 3, 4] [(2, .slice none 0 0), (3, .int .i64 e5), (4, .slice A92 n96 c93)] 3 ?_
    refine RunR.nn ?_
    refine RunC.ret ?_
    refine kseq_r ?_
    refine kret_rt ([row 5 1 (.slice none 0 0) 0 (nums .u8 ([] : List Int)), row 5 1 (.slice A92 n96 c93) n96 (nums .u8 zs4), vw A8 (nums .u8 ks)]) (fun w0 W w hs => (hs).nil_row 5 1) [.slice none 0 0, .int .i64 e5] [0] [row 5 1 (.slice none 0 0) 0 (nums .u8 ([] : List Int))] ⟨rfl, rfl, trivial⟩ (by kernel_rfl) rfl ⟨none, 0, [], e5, rfl, rfl, (by rw [(clamp_bad hp7 (by assumption)).2]; exact pub_bad (clamp_bad hp7 (by assumption)).1), (by exact Nat.zero_le _), (by exact In.nil _), (by exact Nat.le_refl _), (by intro h; simp at h)⟩
  · skip
    refine RunC.ksr ?_
    refine RunR.sl hU [] 1 1 [2, 3, 14] [(2, .slice none 0 0), (3, .int .i64 0), (14, .slice A92 n96 c93)] 1 ?_
    refine RunR.st (some 15) (.buildSlice 23 1 #[(0, .const (.int .u8 9))]) (Step.lit_nums hU 5 1 .u8 (.int .u8 0) ([9] : List Int) rfl rfl (by kernel_rfl) rfl rfl (by kernel_rfl) (fun b14 => ?_))
    have hl15 : (([9] : List Int)).length = 1 := rfl
    refine RunR.st (some 16) (.call { callee := .value (.func 58), args := #[.tmp 15], argTypes := #[23] }) (Step.cl 58 [.slice (some ⟨b14, 0, none⟩) 1 1] [] [vw (some ⟨b14, 0, none⟩) (nums .u8 ([9] : List Int))] [row 5 1 (.slice (some ⟨b14, 0, none⟩) 1 1) 1 (nums .u8 ([9] : List Int)), row 5 1 (.slice A92 n96 c93) n96 (nums .u8 zs4), vw A8 (nums .u8 ks)] (f_From_spec (some ⟨b14, 0, none⟩) 1 ([9] : List Int) 1 (by (repeat first | (simp only [fits]; omega) | with_reducible first | exact In.nil _ | apply In.cons)) (by omega) (by rfl)) [] ((Lend.nil _).tells 0 (row 5 1 (.slice (some ⟨b14, 0, none⟩) 1 1) 1 (nums .u8 ([9] : List Int))) (some ⟨b14, 0, none⟩) (nums .u8 ([9] : List Int)) (by kernel_rfl) (tells_row _ _ _ _ _ _)) ?_)
    rintro _ _ ⟨zs16, rfl, rfl, hp17, hp18⟩
    refine RunR.st (some 17) (.call { callee := .value (.func 57), args := #[.tmp 14, .tmp 16], argTypes := #[23, 89] }) (Step.cl 57 [.slice A92 n96 c93, ag .u64 zs16] [] [vw A92 (nums .u8 zs4)] [row 5 1 (.slice (some ⟨b14, 0, none⟩) 1 1) 1 (nums .u8 ([9] : List Int)), row 5 1 (.slice A92 n96 c93) n96 (nums .u8 zs4), vw A8 (nums .u8 ks)] (k_climb_spec A92 c93 zs4 zs16 (fromV ([9] : List Int) % P) n96 hp10 (by omega) (by omega) (by omega) (by assumption) (by assumption) (by assumption)) [] ((Lend.nil _).tells 1 (row 5 1 (.slice A92 n96 c93) n96 (nums .u8 zs4)) A92 (nums .u8 zs4) (by kernel_rfl) (tells_row _ _ _ _ _ _)) ?_)
    rintro _ _ ⟨A919, c920, zs21, rfl, rfl, hp22, hp23, hp24, hp25, hp26⟩
    refine RunR.sl hU [] 2 6 [2, 3] [(2, .slice A919 zs21.length c920), (3, .int .i64 0)] 2 ?_
    refine RunR.nn ?_
    refine RunC.ret ?_
    refine kret_r [.slice A919 zs21.length c920, .int .i64 0] [0] [row 5 1 (.slice A919 zs21.length c920) zs21.length (nums .u8 zs21)] ⟨rfl, rfl, trivial⟩ (by kernel_rfl) rfl ⟨A919, c920, zs21, 0, rfl, rfl, (by exact pub_end ((clamp_ok hp7 (by omega)).1) ((clamp_ok hp7 (by omega)).2) (by assumption) (by decide +kernel)), (by omega), hp24, (by assumption), (fun h => hp26 (by exact h))⟩
end Go.Proofs.Ytaaplakahkgclaa.Z7
