/- What these functions compute: a contract for each, walked through its code. -/
import Derived.Test.YtaaplakahkgclaaSLzk
import Derived.Test.YtaaplakahkgclaaBPure
import Derived.Test.YtaaplakahkgclaaProg
import Derived.Test.YtaaplakahkgclaaX1
import Derived.Test.YtaaplakahkgclaaX2
import Derived.Test.YtaaplakahkgclaaX3
import Derived.Test.YtaaplakahkgclaaX4
namespace Go.Proofs.Ytaaplakahkgclaa.X5
open Go Go.Proofs.Ytaaplakahkgclaa.SL Go.Proofs.Ytaaplakahkgclaa.SL.W Go.Proofs.Ytaaplakahkgclaa.SL.D Go.Proofs.Ytaaplakahkgclaa.X1 Go.Proofs.Ytaaplakahkgclaa.X2 Go.Proofs.Ytaaplakahkgclaa.X3 Go.Proofs.Ytaaplakahkgclaa.X4
set_option linter.unusedVariables false
set_option linter.unusedSimpArgs false
set_option maxRecDepth 100000
set_option maxHeartbeats 40000000
def U : Tab where
  und := [(3, .int .i64), (4, .bool), (5, .int .u8), (23, .slice 5), (24, .slice 4), (28, .slice 51), (50, .struct #[{ name := "Block", type := 3, offset := 0, embedded := false, tag := "", pkgPath := "", byteOffset := 0 }, { name := "Data", type := 23, offset := 1, embedded := false, tag := "", pkgPath := "", byteOffset := 8 }]), (51, .struct #[{ name := "Block", type := 3, offset := 0, embedded := false, tag := "", pkgPath := "", byteOffset := 0 }, { name := "Data", type := 23, offset := 1, embedded := false, tag := "", pkgPath := "", byteOffset := 8 }]), (69, .struct #[{ name := "safe", type := 23, offset := 0, embedded := false, tag := "", pkgPath := "orlop/disk", byteOffset := 0 }, { name := "wait", type := 28, offset := 1, embedded := false, tag := "", pkgPath := "orlop/disk", byteOffset := 24 }, { name := "left", type := 3, offset := 2, embedded := false, tag := "", pkgPath := "orlop/disk", byteOffset := 48 }, { name := "down", type := 4, offset := 3, embedded := false, tag := "", pkgPath := "orlop/disk", byteOffset := 56 }]), (70, .struct #[{ name := "safe", type := 23, offset := 0, embedded := false, tag := "", pkgPath := "orlop/disk", byteOffset := 0 }, { name := "wait", type := 28, offset := 1, embedded := false, tag := "", pkgPath := "orlop/disk", byteOffset := 24 }, { name := "left", type := 3, offset := 2, embedded := false, tag := "", pkgPath := "orlop/disk", byteOffset := 48 }, { name := "down", type := 4, offset := 3, embedded := false, tag := "", pkgPath := "orlop/disk", byteOffset := 56 }])]
  fld := [((50, 0), (0, 3)), ((50, 1), (1, 23)), ((51, 0), (0, 3)), ((51, 1), (1, 23)), ((69, 0), (0, 23)), ((69, 1), (1, 28)), ((69, 2), (2, 3)), ((69, 3), (3, 4)), ((70, 0), (0, 23)), ((70, 1), (1, 28)), ((70, 2), (2, 3)), ((70, 3), (3, 4))]
  sz := [(3, 1), (4, 1), (5, 1), (23, 1), (24, 1), (28, 1), (50, 2), (51, 2), (69, 4), (70, 4)]
  ti := [(3, (1, 8, .int .i64 0)), (4, (1, 1, .bool false)), (5, (1, 1, .int .u8 0)), (23, (1, 24, .slice none 0 0)), (24, (1, 24, .slice none 0 0)), (28, (1, 24, .slice none 0 0)), (50, (2, 32, .agg #[.int .i64 0, .slice none 0 0])), (51, (2, 32, .agg #[.int .i64 0, .slice none 0 0])), (69, (4, 64, .agg #[.slice none 0 0, .slice none 0 0, .int .i64 0, .bool false])), (70, (4, 64, .agg #[.slice none 0 0, .slice none 0 0, .int .i64 0, .bool false]))]
  bld := [(50, [(0, 1), (1, 1)]), (51, [(0, 1), (1, 1)]), (69, [(0, 1), (1, 1), (2, 1), (3, 1)]), (70, [(0, 1), (1, 1), (2, 1), (3, 1)])]

theorem hU : U.OK Try.prog where
  und := by
    intro p hp
    simp only [U, List.mem_cons, List.not_mem_nil, or_false] at hp
    rcases hp with rfl | rfl | rfl | rfl | rfl | rfl | rfl | rfl | rfl | rfl
    · exact Try.underlying3
    · exact Try.underlying4
    · exact Try.underlying5
    · exact Try.underlying23
    · exact Try.underlying24
    · exact Try.underlying28
    · exact Try.underlying50
    · exact Try.underlying51
    · exact Try.underlying69
    · exact Try.underlying70
  fld := by
    intro p hp
    simp only [U, List.mem_cons, List.not_mem_nil, or_false] at hp
    rcases hp with rfl | rfl | rfl | rfl | rfl | rfl | rfl | rfl | rfl | rfl | rfl | rfl
    · exact ⟨_, _, Try.underlying50, rfl, rfl, rfl, Try.prog.types[3]!, by kernel_rfl, by decide +kernel⟩
    · exact ⟨_, _, Try.underlying50, rfl, rfl, rfl, Try.prog.types[23]!, by kernel_rfl, by decide +kernel⟩
    · exact ⟨_, _, Try.underlying51, rfl, rfl, rfl, Try.prog.types[3]!, by kernel_rfl, by decide +kernel⟩
    · exact ⟨_, _, Try.underlying51, rfl, rfl, rfl, Try.prog.types[23]!, by kernel_rfl, by decide +kernel⟩
    · exact ⟨_, _, Try.underlying69, rfl, rfl, rfl, Try.prog.types[23]!, by kernel_rfl, by decide +kernel⟩
    · exact ⟨_, _, Try.underlying69, rfl, rfl, rfl, Try.prog.types[28]!, by kernel_rfl, by decide +kernel⟩
    · exact ⟨_, _, Try.underlying69, rfl, rfl, rfl, Try.prog.types[3]!, by kernel_rfl, by decide +kernel⟩
    · exact ⟨_, _, Try.underlying69, rfl, rfl, rfl, Try.prog.types[4]!, by kernel_rfl, by decide +kernel⟩
    · exact ⟨_, _, Try.underlying70, rfl, rfl, rfl, Try.prog.types[23]!, by kernel_rfl, by decide +kernel⟩
    · exact ⟨_, _, Try.underlying70, rfl, rfl, rfl, Try.prog.types[28]!, by kernel_rfl, by decide +kernel⟩
    · exact ⟨_, _, Try.underlying70, rfl, rfl, rfl, Try.prog.types[3]!, by kernel_rfl, by decide +kernel⟩
    · exact ⟨_, _, Try.underlying70, rfl, rfl, rfl, Try.prog.types[4]!, by kernel_rfl, by decide +kernel⟩
  sz := by
    intro p hp
    simp only [U, List.mem_cons, List.not_mem_nil, or_false] at hp
    rcases hp with rfl | rfl | rfl | rfl | rfl | rfl | rfl | rfl | rfl | rfl
    · exact ⟨Try.prog.types[3]!, by kernel_rfl, by kernel_rfl⟩
    · exact ⟨Try.prog.types[4]!, by kernel_rfl, by kernel_rfl⟩
    · exact ⟨Try.prog.types[5]!, by kernel_rfl, by kernel_rfl⟩
    · exact ⟨Try.prog.types[23]!, by kernel_rfl, by kernel_rfl⟩
    · exact ⟨Try.prog.types[24]!, by kernel_rfl, by kernel_rfl⟩
    · exact ⟨Try.prog.types[28]!, by kernel_rfl, by kernel_rfl⟩
    · exact ⟨Try.prog.types[50]!, by kernel_rfl, by kernel_rfl⟩
    · exact ⟨Try.prog.types[51]!, by kernel_rfl, by kernel_rfl⟩
    · exact ⟨Try.prog.types[69]!, by kernel_rfl, by kernel_rfl⟩
    · exact ⟨Try.prog.types[70]!, by kernel_rfl, by kernel_rfl⟩
  ti := by
    intro p hp
    simp only [U, List.mem_cons, List.not_mem_nil, or_false] at hp
    rcases hp with rfl | rfl | rfl | rfl | rfl | rfl | rfl | rfl | rfl | rfl
    · exact ⟨Try.prog.types[3]!, by kernel_rfl, by kernel_rfl, by kernel_rfl, by kernel_rfl⟩
    · exact ⟨Try.prog.types[4]!, by kernel_rfl, by kernel_rfl, by kernel_rfl, by kernel_rfl⟩
    · exact ⟨Try.prog.types[5]!, by kernel_rfl, by kernel_rfl, by kernel_rfl, by kernel_rfl⟩
    · exact ⟨Try.prog.types[23]!, by kernel_rfl, by kernel_rfl, by kernel_rfl, by kernel_rfl⟩
    · exact ⟨Try.prog.types[24]!, by kernel_rfl, by kernel_rfl, by kernel_rfl, by kernel_rfl⟩
    · exact ⟨Try.prog.types[28]!, by kernel_rfl, by kernel_rfl, by kernel_rfl, by kernel_rfl⟩
    · exact ⟨Try.prog.types[50]!, by kernel_rfl, by kernel_rfl, by kernel_rfl, by kernel_rfl⟩
    · exact ⟨Try.prog.types[51]!, by kernel_rfl, by kernel_rfl, by kernel_rfl, by kernel_rfl⟩
    · exact ⟨Try.prog.types[69]!, by kernel_rfl, by kernel_rfl, by kernel_rfl, by kernel_rfl⟩
    · exact ⟨Try.prog.types[70]!, by kernel_rfl, by kernel_rfl, by kernel_rfl, by kernel_rfl⟩
  bld := by
    intro p hp
    simp only [U, List.mem_cons, List.not_mem_nil, or_false] at hp
    rcases hp with rfl | rfl | rfl | rfl
    · exact ⟨_, Try.underlying50, by kernel_rfl⟩
    · exact ⟨_, Try.underlying51, by kernel_rfl⟩
    · exact ⟨_, Try.underlying69, by kernel_rfl⟩
    · exact ⟨_, Try.underlying70, by kernel_rfl⟩
  mixed := by kernel_rfl

theorem d_Sync_spec (d : Nat) (A : Option Addr) (n : Nat) (c : Nat) (ss : List Int) (Wa : Option Addr) (m : Nat) (wc : Nat) (ws : List Ch) (lf : Int) (dn : Bool) (hss : In .u8 ss) (hnl : ss.length = n) (hnc : n ≤ c) (hAs : 0 < n → Option.isSome A = true) (hn6 : n % 256 = 0) (hnb : n ≤ 557056) (hml : ws.length = m) (hmb : m ≤ 1000000) (hok : ChOK .u8 ws) (hwk : WOK n ws) (hWs : 0 < m → Option.isSome Wa = true) (hlf : 0 ≤ lf ∧ lf < 9223372036854775808) :
    CallsS Try.prog 47 [pt d] [blk d 70 [.slice A n c, .slice Wa m wc, .int .i64 lf, .bool dn], row 5 1 (.slice A n c) n (nums .u8 ss), row 51 2 (.slice Wa m wc) m (chV ws), chd .u8 ws] (fun r D => ∃ (e : Int) (ss2 : List Int) (Wb : Option Addr) (m2 : Nat) (wc2 : Nat) (ws2 : List Ch) (lf3 : Int) (dn3 : Bool), r = .int .i64 e ∧ D = [blk d 70 [.slice A n c, .slice Wb m2 wc2, .int .i64 lf3, .bool dn3], row 5 1 (.slice A n c) n (nums .u8 ss2), row 51 2 (.slice Wb m2 wc2) m2 (chV ws2), chd .u8 ws2] ∧ ((e, ss2, dat ws2, lf3, dn3) = syncR ss (dat ws) lf dn) ∧ (In .u8 ss2) ∧ (ss2.length = n) ∧ (ws2.length = m2) ∧ (m2 ≤ m) ∧ (ChOK .u8 ws2) ∧ (WOK n ws2) ∧ (0 < m2 → Option.isSome Wb = true) ∧ (0 ≤ lf3 ∧ lf3 < 9223372036854775808)) := by
  refine CallsS.enter hU Try.f47 _ [.tmp 2] 29 Try.func47 rfl (by decide) rfl rfl (by kernel_rfl) fun w0 W => ?_
  refine RunC.sr ?_
  refine RunR.sl hU [] 1 1 [0, 2] [(0, pt d), (2, .int .i64 0)] 1 ?_
  refine RunR.nn ?_
  refine RunC.seq ?_
  refine RunC.sr ?_
  refine RunR.sl hU [] 3 3 [0, 2, 7] [(0, pt d), (2, .int .i64 0), (7, .pointer (some ⟨d, 3, none⟩))] 3 ?_
  refine RunR.st (some 8) (.load 4 (.tmp 7)) (Step.load_blk hU 0 d (3) 70 [.slice A n c, .slice Wa m wc, .int .i64 lf, .bool dn] (.bool dn) (by kernel_rfl) (by kernel_rfl) (by kernel_rfl) (by kernel_rfl) ?_)
  refine RunR.sl hU [] 1 5 [0, 2, 9] [(0, pt d), (2, .int .i64 0), (9, .bool dn)] 1 ?_
  refine RunR.ev [0, 2, 9] [(0, pt d), (2, .int .i64 0), (9, .bool dn)] ?_
  by_cases h1 : dn = true
  · skip
    refine RunR.enveq [(0, pt d), (2, .int .i64 0), (9, .bool true)] (by rw [h1]; try rfl) ?_
    refine RunR.sl hU [] 3 8 [0, 2, 12] [(0, pt d), (2, .int .i64 0), (12, .bool true)] 1 ?_
    refine RunR.nn ?_
    refine RunC.cond (b := true) (by kernel_rfl) (fun _ => ?_) (fun h => by cases h)
    refine RunC.sr ?_
    refine RunR.sl hU [] 1 1 [0, 2] [(0, pt d), (2, .int .i64 11)] 1 ?_
    refine RunR.nn ?_
    refine RunC.ret ?_
    refine kseq_r ?_
    refine kret_r [.int .i64 11] [0, 0, 0, 0] [blk d 70 [.slice A n c, .slice Wa m wc, .int .i64 lf, .bool dn], row 5 1 (.slice A n c) n (nums .u8 ss), row 51 2 (.slice Wa m wc) m (chV ws), chd .u8 ws] ⟨rfl, trivial⟩ (by kernel_rfl) rfl ⟨11, ss, Wa, m, wc, ws, lf, dn, rfl, rfl, (by exact sync_down (by assumption)), (by exact hss), (by exact hnl), (by assumption), (by omega), (by assumption), (by assumption), (by assumption), (by assumption)⟩
  · skip
    have h1 := Bool.eq_false_iff.2 h1
    refine RunR.enveq [(0, pt d), (2, .int .i64 0), (9, .bool false)] (by rw [h1]; try rfl) ?_
    refine RunR.sl hU [] 1 6 [0, 2, 9, 10] [(0, pt d), (2, .int .i64 0), (9, .bool false), (10, pt d)] 1 ?_
    refine RunR.st (some 11) (.call { callee := .value (.func 68), args := #[.tmp 10], argTypes := #[30] }) (Step.cn 68 [pt d] [blk d 70 [.slice A n c, .slice Wa m wc, .int .i64 lf, .bool dn]] [row 5 1 (.slice A n c) n (nums .u8 ss), row 51 2 (.slice Wa m wc) m (chV ws), chd .u8 ws] (d_act_spec d A n c Wa m wc lf dn (by assumption)) [0] ?_)
    rintro _ _ ⟨lf22, dn23, rfl, rfl, hp4, hp5⟩
    refine RunR.sl hU [] 1 8 [0, 2, 12] [(0, pt d), (2, .int .i64 0), (12, .bool dn23)] 1 ?_
    refine RunR.nn ?_
    refine RunC.cond (b := dn23) (by kernel_rfl) (fun h6 => ?_) (fun h6 => ?_)
    · skip
      refine RunC.sr ?_
      refine RunR.sl hU [] 1 1 [0, 2] [(0, pt d), (2, .int .i64 11)] 1 ?_
      refine RunR.nn ?_
      refine RunC.ret ?_
      refine kseq_r ?_
      refine kret_r [.int .i64 11] [0, 0, 0, 0] [blk d 70 [.slice A n c, .slice Wa m wc, .int .i64 lf22, .bool dn23], row 5 1 (.slice A n c) n (nums .u8 ss), row 51 2 (.slice Wa m wc) m (chV ws), chd .u8 ws] ⟨rfl, trivial⟩ (by kernel_rfl) rfl ⟨11, ss, Wa, m, wc, ws, lf22, dn23, rfl, rfl, (by exact sync_go (by assumption) hp4 (by assumption)), (by exact hss), (by exact hnl), (by assumption), (by omega), (by assumption), (by assumption), (by assumption), (by assumption)⟩
    · skip
      refine RunC.ks ?_
      refine RunC.seq ?_
      refine RunC.sr ?_
      refine RunR.sl hU [] 3 3 [0, 2, 15] [(0, pt d), (2, .int .i64 0), (15, .pointer (some ⟨d, 1, none⟩))] 3 ?_
      refine RunR.st (some 16) (.load 28 (.tmp 15)) (Step.load_blk hU 0 d (1) 70 [.slice A n c, .slice Wa m wc, .int .i64 lf22, .bool dn23] (.slice Wa m wc) (by kernel_rfl) (by kernel_rfl) (by kernel_rfl) (by kernel_rfl) ?_)
      refine RunR.sl hU [] 2 6 [0, 2, 16, 17, 18] [(0, pt d), (2, .int .i64 0), (16, .slice Wa m wc), (17, .int .i64 ((m : Nat) : Int)), (18, .int .i64 0)] 2 ?_
      refine RunR.nn ?_
      refine RunC.block ?_
      refine RunC.env [0, 2, 16, 17, 18] [(0, pt d), (2, .int .i64 0), (16, .slice Wa m wc), (17, .int .i64 ((m : Nat) : Int)), (18, .int .i64 0)] (by kernel_rfl) ?_
      refine RunC.only [1, 0, 0, 0] [row 5 1 (.slice A n c) n (nums .u8 ss), blk d 70 [.slice A n c, .slice Wa m wc, .int .i64 lf22, .bool dn23], row 51 2 (.slice Wa m wc) m (chV ws), chd .u8 ws] (by kernel_rfl) ?_
      refine RunC.loop (σ := Nat) (fun n_ t_ D_ => ∃ (i : Int) (s2 : List Int), (0 ≤ i) ∧ (i ≤ m) ∧ (s2 = syncP ss ((dat ws).take i.toNat)) ∧ (s2.length = n) ∧ (In .u8 s2) ∧ n_ = ((m - i).toNat : Nat) ∧ t_ = [(0, pt d), (2, .int .i64 0), (16, .slice Wa m wc), (17, .int .i64 ((m : Nat) : Int)), (18, .int .i64 i)] ∧ D_ = [row 5 1 (.slice A n c) n (nums .u8 s2), blk d 70 [.slice A n c, .slice Wa m wc, .int .i64 lf22, .bool dn23], row 51 2 (.slice Wa m wc) m (chV ws), chd .u8 ws]) id _ ⟨0, ss, (by omega), (by omega), (by rfl), (by assumption), hss, rfl, rfl, rfl⟩ ?_
      rintro n_ _ _ ⟨i, s2, hi, hi2, hs2, hs2l, hs2i, rfl, rfl, rfl⟩
      refine RunC.sr ?_
      refine RunR.sl hU [] 1 1 [0, 2, 16, 17, 18, 19] [(0, pt d), (2, .int .i64 0), (16, .slice Wa m wc), (17, .int .i64 ((m : Nat) : Int)), (18, .int .i64 i), (19, .bool (decide (i < ((m : Nat) : Int))))] 1 ?_
      refine RunR.nn ?_
      refine RunC.seq ?_
      refine RunC.condp (i < ((m : Nat) : Int)) (by kernel_rfl) (fun h7 => ?_) (fun h7 => ?_)
      · skip
        refine RunC.ks ?_
        refine RunC.seq ?_
        refine RunC.block ?_
        refine RunC.sr ?_
        refine RunR.sil hU [] 1 1 [0, 2, 16, 17, 18, 20] [(0, pt d), (2, .int .i64 0), (16, .slice Wa m wc), (17, .int .i64 ((m : Nat) : Int)), (18, .int .i64 i), (20, .pointer (elemAt Wa i 2))] (((0 ≤ i ∧ i < ((m : Nat) : Int)) ∧ Option.isSome Wa = true) ∧ True) rfl (by kernel_rfl) ⟨⟨by omega, hWs (by omega)⟩, trivial⟩ ?_
        obtain ⟨k8, Ae9, ce10, xe11, hg12, hf13, hr14, hc15, hl16⟩ := ch_at (by assumption : ChOK .u8 ws) (i := (i).toNat) (by omega)
        have hf17 := hf13; simp only [fits] at hf17
        have hw18 := wok_at hwk hg12
        refine RunR.st (some 21) (.load 51 (.tmp 20)) (Step.load_of hU 2 (row 51 2 (.slice Wa m wc) m (chV ws)) Wa i 2 (chV ws) (.agg #[.int .i64 k8, .slice Ae9 xe11.length ce10]) (by kernel_rfl) (by kernel_rfl) (tells_row _ _ _ _ _ _) (loadv_ch (by kernel_rfl) (by kernel_rfl) hg12) (by kernel_rfl) (by rw [chV_len]; omega) ?_)
        refine RunR.st (some 4) (.alloc 51) (Step.al hU 2 32 (.agg #[.int .i64 0, .slice none 0 0]) (fun b19 => ?_))
        refine RunR.st none (.store 51 (.tmp 4) (.tmp 21)) (Step.store_blk hU 0 b19 0 51 [.int .i64 0, .slice none 0 0] (.agg #[.int .i64 k8, .slice Ae9 xe11.length ce10]) (by kernel_rfl) (by kernel_rfl) (by kernel_rfl) 2 rfl [.int .i64 k8, .slice Ae9 xe11.length ce10] (by kernel_rfl) rfl (by kernel_rfl) (by decide) ?_)
        refine RunR.nn ?_
        refine RunC.region ?_
        refine RunR.sl hU [] 1 1 [0, 2, 4, 16, 17, 18, 22] [(0, pt d), (2, .int .i64 0), (4, pt b19), (16, .slice Wa m wc), (17, .int .i64 ((m : Nat) : Int)), (18, .int .i64 i), (22, pt d)] 1 ?_
        refine RunR.st (some 23) (.load 51 (.tmp 4)) (Step.load_blk hU 0 b19 (0) 51 [.int .i64 k8, .slice Ae9 xe11.length ce10] (.agg #[.int .i64 k8, .slice Ae9 xe11.length ce10]) (by kernel_rfl) (by kernel_rfl) (by kernel_rfl) (by kernel_rfl) ?_)
        refine RunR.st (some 24) (.call { callee := .value (.func 50), args := #[.tmp 22, .tmp 23], argTypes := #[30, 51] }) (Step.cl 50 [pt d, .agg #[.int .i64 k8, .slice Ae9 xe11.length ce10]] [blk d 70 [.slice A n c, .slice Wa m wc, .int .i64 lf22, .bool dn23], row 5 1 (.slice A n c) n (nums .u8 s2)] [vw Ae9 (nums .u8 xe11)] [blk b19 51 [.int .i64 k8, .slice Ae9 xe11.length ce10], row 51 2 (.slice Wa m wc) m (chV ws), chd .u8 ws] (d_put_spec d A n c s2 Wa m wc lf22 dn23 k8 Ae9 ce10 xe11 xe11.length hs2i (by assumption) (by assumption) (fun h => hAs (by exact h)) (by assumption) (by assumption) (by omega) (by omega) (by omega) hr14 (by assumption) (by rfl)) [2, 1] ((Lend.nil _).tells 2 (chd .u8 ws) Ae9 (nums .u8 xe11) (by kernel_rfl) (tells_chd hg12)) ?_)
        rintro _ _ ⟨ss220, rfl, rfl, hp21, hp22, hp23⟩
        refine RunR.dn ?_
        refine kblock_n ?_
        refine kseq_n ?_
        refine RunC.region ?_
        refine RunR.sil hU [0] 2 2 [0, 2, 16, 17, 18] [(0, pt d), (2, .int .i64 0), (16, .slice Wa m wc), (17, .int .i64 ((m : Nat) : Int)), (18, .int .i64 (i + 1))] ((-9223372036854775808 ≤ (i + 1) ∧ (i + 1) < 9223372036854775808) ∧ (True) ∧ True) rfl (by kernel_rfl) ⟨(by omega), trivial, trivial⟩ ?_
        refine RunR.dn ?_
        refine kloop_n _ [0, 2, 16, 17, 18] [1, 0, 1, 1] [(0, pt d), (2, .int .i64 0), (16, .slice Wa m wc), (17, .int .i64 ((m : Nat) : Int)), (18, .int .i64 (i + 1))] [row 5 1 (.slice A n c) n (nums .u8 ss220), blk d 70 [.slice A n c, .slice Wa m wc, .int .i64 lf22, .bool dn23], row 51 2 (.slice Wa m wc) m (chV ws), chd .u8 ws] (by kernel_rfl) (by kernel_rfl) ?_ ⟨(i + 1), ss220, (by omega), (by assumption), (by rw [hp21, hs2, show (i + 1).toNat = i.toNat + 1 by omega]; exact sync_step (dat_get (by assumption))), (by assumption), hp23, rfl, (by rfl), (by rfl)⟩
        show ((m - (i + 1)).toNat : Nat) < ((m - i).toNat : Nat)
        omega
      · skip
        refine RunC.exit ?_
        refine kseq_e ?_
        refine kloop_e ?_
        refine kblock_e ?_
        refine kseq_n ?_
        refine RunC.sr ?_
        refine RunR.sl hU [] 3 3 [2, 28] [(2, .int .i64 0), (28, .pointer (some ⟨d, 1, none⟩))] 3 ?_
        refine RunR.st none (.store 28 (.tmp 28) (.const (.slice none 0 0))) (Step.store_blk hU 1 d 1 70 [.slice A n c, .slice Wa m wc, .int .i64 lf22, .bool dn23] (.slice none 0 0) (by kernel_rfl) (by kernel_rfl) (by kernel_rfl) 1 rfl [.slice none 0 0] (by kernel_rfl) rfl (by kernel_rfl) (by simp) ?_)
        refine RunR.nx ?_
        refine RunR.sl hU [] 1 1 [2] [(2, .int .i64 0)] 1 ?_
        refine RunR.nn ?_
        refine RunC.ret ?_
        refine kret_rt ([chd .u8 ([] : List Ch), row 51 2 (.slice none 0 0) 0 (chV ([] : List Ch)), blk d 70 [.slice A n c, .slice none 0 0, .int .i64 lf22, .bool dn23], row 5 1 (.slice A n c) n (nums .u8 s2), row 51 2 (.slice Wa m wc) m (chV ws), chd .u8 ws]) (fun w0 W w hs => ((hs).nil_row 51 2).chd0 .u8) [.int .i64 0] [2, 2, 1, 0] [blk d 70 [.slice A n c, .slice none 0 0, .int .i64 lf22, .bool dn23], row 5 1 (.slice A n c) n (nums .u8 s2), row 51 2 (.slice none 0 0) 0 (chV ([] : List Ch)), chd .u8 ([] : List Ch)] ⟨rfl, trivial⟩ (by kernel_rfl) rfl ⟨0, s2, none, 0, 0, ([] : List Ch), lf22, dn23, rfl, rfl, (by exact sync_end (by assumption) hp4 (by assumption) (by rw [hs2, List.take_of_length_le (by rw [dat_len]; omega)])), (by exact hs2i), (by exact hs2l), (by rfl), (by exact Nat.zero_le _), (by exact ChOK.nil _), (by exact WOK.nil _), (by intro h; omega), (by assumption)⟩

theorem d_Crash_spec (d : Nat) (A : Option Addr) (n : Nat) (c : Nat) (ss : List Int) (Wa : Option Addr) (m : Nat) (wc : Nat) (ws : List Ch) (lf : Int) (dn : Bool) (K : Option Addr) (kc : Nat) (ks : List Bool) (l_ks : Nat) (hss : In .u8 ss) (hnl : ss.length = n) (hnc : n ≤ c) (hAs : 0 < n → Option.isSome A = true) (hn6 : n % 256 = 0) (hnb : n ≤ 557056) (hml : ws.length = m) (hmb : m ≤ 1000000) (hok : ChOK .u8 ws) (hwk : WOK n ws) (hWs : 0 < m → Option.isSome Wa = true) (hkb : ks.length ≤ 140737488351232) (hl_ks : ks.length = l_ks) :
    CallsS Try.prog 21 [pt d, .slice K l_ks kc] [blk d 70 [.slice A n c, .slice Wa m wc, .int .i64 lf, .bool dn], row 5 1 (.slice A n c) n (nums .u8 ss), row 51 2 (.slice Wa m wc) m (chV ws), chd .u8 ws, vw K (bls ks)] (fun r D => ∃ (ss2 : List Int), r = .tuple #[] ∧ D = [blk d 70 [.slice A n c, .slice none 0 0, .int .i64 0, .bool false], row 5 1 (.slice A n c) n (nums .u8 ss2), row 51 2 (.slice none 0 0) 0 (chV ([] : List Ch)), chd .u8 ([] : List Ch)] ∧ (ss2 = crashP ss (dat ws) ks) ∧ (In .u8 ss2) ∧ (ss2.length = n)) := by
  subst hl_ks
  refine CallsS.enter hU Try.f21 _ [] 39 Try.func21 rfl (by decide) rfl rfl (by kernel_rfl) fun w0 W => ?_
  refine RunC.know (p := 0 < ks.length → Option.isSome K = true) (fun _ _ w hs => vw_some hs 4 rfl (by exact bls_len _)) (fun hA1 => ?_)
  refine RunC.seq ?_
  refine RunC.sr ?_
  refine RunR.sl hU [] 3 3 [0, 1, 8] [(0, pt d), (1, .slice K ks.length kc), (8, .pointer (some ⟨d, 1, none⟩))] 3 ?_
  refine RunR.st (some 9) (.load 28 (.tmp 8)) (Step.load_blk hU 0 d (1) 70 [.slice A n c, .slice Wa m wc, .int .i64 lf, .bool dn] (.slice Wa m wc) (by kernel_rfl) (by kernel_rfl) (by kernel_rfl) (by kernel_rfl) ?_)
  refine RunR.sl hU [] 2 6 [0, 1, 9, 10, 11] [(0, pt d), (1, .slice K ks.length kc), (9, .slice Wa m wc), (10, .int .i64 ((m : Nat) : Int)), (11, .int .i64 0)] 2 ?_
  refine RunR.nn ?_
  refine RunC.block ?_
  refine RunC.env [0, 1, 9, 10, 11] [(0, pt d), (1, .slice K ks.length kc), (9, .slice Wa m wc), (10, .int .i64 ((m : Nat) : Int)), (11, .int .i64 0)] (by kernel_rfl) ?_
  refine RunC.only [1, 0, 0, 0, 0] [row 5 1 (.slice A n c) n (nums .u8 ss), blk d 70 [.slice A n c, .slice Wa m wc, .int .i64 lf, .bool dn], row 51 2 (.slice Wa m wc) m (chV ws), chd .u8 ws, vw K (bls ks)] (by kernel_rfl) ?_
  refine RunC.loop (σ := Nat) (fun n_ t_ D_ => ∃ (i : Int) (s2 : List Int), (0 ≤ i) ∧ (i ≤ m) ∧ (s2 = crashN ss (dat ws) ks i.toNat) ∧ (s2.length = n) ∧ (In .u8 s2) ∧ n_ = ((m - i).toNat : Nat) ∧ t_ = [(0, pt d), (1, .slice K ks.length kc), (9, .slice Wa m wc), (10, .int .i64 ((m : Nat) : Int)), (11, .int .i64 i)] ∧ D_ = [row 5 1 (.slice A n c) n (nums .u8 s2), blk d 70 [.slice A n c, .slice Wa m wc, .int .i64 lf, .bool dn], row 51 2 (.slice Wa m wc) m (chV ws), chd .u8 ws, vw K (bls ks)]) id _ ⟨0, ss, (by omega), (by omega), (by rfl), (by assumption), hss, rfl, rfl, rfl⟩ ?_
  rintro n_ _ _ ⟨i, s2, hi, hi2, hs2, hs2l, hs2i, rfl, rfl, rfl⟩
  refine RunC.sr ?_
  refine RunR.sl hU [] 1 1 [0, 1, 9, 10, 11, 12] [(0, pt d), (1, .slice K ks.length kc), (9, .slice Wa m wc), (10, .int .i64 ((m : Nat) : Int)), (11, .int .i64 i), (12, .bool (decide (i < ((m : Nat) : Int))))] 1 ?_
  refine RunR.nn ?_
  refine RunC.seq ?_
  refine RunC.condp (i < ((m : Nat) : Int)) (by kernel_rfl) (fun h2 => ?_) (fun h2 => ?_)
  · skip
    refine RunC.ks ?_
    refine RunC.seq ?_
    refine RunC.block ?_
    refine RunC.sr ?_
    refine RunR.sil hU [] 2 2 [0, 1, 9, 10, 11, 13, 14] [(0, pt d), (1, .slice K ks.length kc), (9, .slice Wa m wc), (10, .int .i64 ((m : Nat) : Int)), (11, .int .i64 i), (13, .int .i64 i), (14, .pointer (elemAt Wa i 2))] ((True) ∧ ((0 ≤ i ∧ i < ((m : Nat) : Int)) ∧ Option.isSome Wa = true) ∧ True) rfl (by kernel_rfl) ⟨trivial, ⟨by omega, hWs (by omega)⟩, trivial⟩ ?_
    obtain ⟨k3, Ae4, ce5, xe6, hg7, hf8, hr9, hc10, hl11⟩ := ch_at (by assumption : ChOK .u8 ws) (i := (i).toNat) (by omega)
    have hf12 := hf8; simp only [fits] at hf12
    have hw13 := wok_at hwk hg7
    refine RunR.st (some 15) (.load 51 (.tmp 14)) (Step.load_of hU 2 (row 51 2 (.slice Wa m wc) m (chV ws)) Wa i 2 (chV ws) (.agg #[.int .i64 k3, .slice Ae4 xe6.length ce5]) (by kernel_rfl) (by kernel_rfl) (tells_row _ _ _ _ _ _) (loadv_ch (by kernel_rfl) (by kernel_rfl) hg7) (by kernel_rfl) (by rw [chV_len]; omega) ?_)
    refine RunR.st (some 5) (.alloc 51) (Step.al hU 2 32 (.agg #[.int .i64 0, .slice none 0 0]) (fun b14 => ?_))
    refine RunR.sl hU [] 1 5 [0, 1, 4, 5, 9, 10, 11, 15] [(0, pt d), (1, .slice K ks.length kc), (4, .int .i64 i), (5, pt b14), (9, .slice Wa m wc), (10, .int .i64 ((m : Nat) : Int)), (11, .int .i64 i), (15, .agg #[.int .i64 k3, .slice Ae4 xe6.length ce5])] 1 ?_
    refine RunR.st none (.store 51 (.tmp 5) (.tmp 15)) (Step.store_blk hU 0 b14 0 51 [.int .i64 0, .slice none 0 0] (.agg #[.int .i64 k3, .slice Ae4 xe6.length ce5]) (by kernel_rfl) (by kernel_rfl) (by kernel_rfl) 2 rfl [.int .i64 k3, .slice Ae4 xe6.length ce5] (by kernel_rfl) rfl (by kernel_rfl) (by decide) ?_)
    refine RunR.nx ?_
    refine RunR.sl hU [] 5 5 [0, 1, 4, 5, 9, 10, 11, 20] [(0, pt d), (1, .slice K ks.length kc), (4, .int .i64 i), (5, pt b14), (9, .slice Wa m wc), (10, .int .i64 ((m : Nat) : Int)), (11, .int .i64 i), (20, .bool (decide (i < ((ks.length : Nat) : Int))))] 5 ?_
    refine RunR.ev [0, 1, 4, 5, 9, 10, 11, 20] [(0, pt d), (1, .slice K ks.length kc), (4, .int .i64 i), (5, pt b14), (9, .slice Wa m wc), (10, .int .i64 ((m : Nat) : Int)), (11, .int .i64 i), (20, .bool (decide (i < ((ks.length : Nat) : Int))))] ?_
    by_cases h15 : i < ((ks.length : Nat) : Int)
    · skip
      refine RunR.enveq [(0, pt d), (1, .slice K ks.length kc), (4, .int .i64 i), (5, pt b14), (9, .slice Wa m wc), (10, .int .i64 ((m : Nat) : Int)), (11, .int .i64 i), (20, .bool true)] (by rw [decide_eq_true h15]; try rfl) ?_
      refine RunR.sil hU [] 3 8 [0, 1, 5, 9, 10, 11, 20, 23] [(0, pt d), (1, .slice K ks.length kc), (5, pt b14), (9, .slice Wa m wc), (10, .int .i64 ((m : Nat) : Int)), (11, .int .i64 i), (20, .bool true), (23, .pointer (elemAt K i 1))] ((True) ∧ (True) ∧ ((0 ≤ i ∧ i < ((ks.length : Nat) : Int)) ∧ Option.isSome K = true) ∧ True) rfl (by kernel_rfl) ⟨trivial, trivial, ⟨by omega, hA1 (by omega)⟩, trivial⟩ ?_
      refine RunR.st (some 24) (.load 4 (.tmp 23)) (Step.load_of hU 5 (vw K (bls ks)) K i 1 (bls ks) (.bool (ks.getD (i).toNat false)) (by kernel_rfl) (by kernel_rfl) (tells_vw _ _) (loadv_bls (by kernel_rfl) (by omega)) (by kernel_rfl) (by rw [bls_len]; omega) ?_)
      refine RunR.sl hU [] 1 10 [0, 1, 5, 9, 10, 11, 25] [(0, pt d), (1, .slice K ks.length kc), (5, pt b14), (9, .slice Wa m wc), (10, .int .i64 ((m : Nat) : Int)), (11, .int .i64 i), (25, .bool (ks.getD (i).toNat false))] 1 ?_
      refine RunR.nn ?_
      refine RunC.cond (b := ks.getD (i).toNat false) (by kernel_rfl) (fun h16 => ?_) (fun h16 => ?_)
      · skip
        refine RunC.region ?_
        refine RunR.sl hU [] 1 1 [0, 1, 5, 9, 10, 11, 26] [(0, pt d), (1, .slice K ks.length kc), (5, pt b14), (9, .slice Wa m wc), (10, .int .i64 ((m : Nat) : Int)), (11, .int .i64 i), (26, pt d)] 1 ?_
        refine RunR.st (some 27) (.load 51 (.tmp 5)) (Step.load_blk hU 0 b14 (0) 51 [.int .i64 k3, .slice Ae4 xe6.length ce5] (.agg #[.int .i64 k3, .slice Ae4 xe6.length ce5]) (by kernel_rfl) (by kernel_rfl) (by kernel_rfl) (by kernel_rfl) ?_)
        refine RunR.st (some 28) (.call { callee := .value (.func 50), args := #[.tmp 26, .tmp 27], argTypes := #[30, 51] }) (Step.cl 50 [pt d, .agg #[.int .i64 k3, .slice Ae4 xe6.length ce5]] [blk d 70 [.slice A n c, .slice Wa m wc, .int .i64 lf, .bool dn], row 5 1 (.slice A n c) n (nums .u8 s2)] [vw Ae4 (nums .u8 xe6)] [blk b14 51 [.int .i64 k3, .slice Ae4 xe6.length ce5], row 51 2 (.slice Wa m wc) m (chV ws), chd .u8 ws, vw K (bls ks)] (d_put_spec d A n c s2 Wa m wc lf dn k3 Ae4 ce5 xe6 xe6.length hs2i (by assumption) (by assumption) (fun h => hAs (by exact h)) (by assumption) (by assumption) (by omega) (by omega) (by omega) hr9 (by assumption) (by rfl)) [2, 1] ((Lend.nil _).tells 2 (chd .u8 ws) Ae4 (nums .u8 xe6) (by kernel_rfl) (tells_chd hg7)) ?_)
        rintro _ _ ⟨ss217, rfl, rfl, hp18, hp19, hp20⟩
        refine RunR.dn ?_
        refine kblock_n ?_
        refine kseq_n ?_
        refine RunC.region ?_
        refine RunR.sil hU [0] 2 2 [0, 1, 9, 10, 11] [(0, pt d), (1, .slice K ks.length kc), (9, .slice Wa m wc), (10, .int .i64 ((m : Nat) : Int)), (11, .int .i64 (i + 1))] ((-9223372036854775808 ≤ (i + 1) ∧ (i + 1) < 9223372036854775808) ∧ (True) ∧ True) rfl (by kernel_rfl) ⟨(by omega), trivial, trivial⟩ ?_
        refine RunR.dn ?_
        refine kloop_n _ [0, 1, 9, 10, 11] [1, 0, 1, 1, 1] [(0, pt d), (1, .slice K ks.length kc), (9, .slice Wa m wc), (10, .int .i64 ((m : Nat) : Int)), (11, .int .i64 (i + 1))] [row 5 1 (.slice A n c) n (nums .u8 ss217), blk d 70 [.slice A n c, .slice Wa m wc, .int .i64 lf, .bool dn], row 51 2 (.slice Wa m wc) m (chV ws), chd .u8 ws, vw K (bls ks)] (by kernel_rfl) (by kernel_rfl) ?_ ⟨(i + 1), ss217, (by omega), (by assumption), (by rw [show (i + 1).toNat = i.toNat + 1 by omega]; (rw [crash_yes (dat_get (by assumption)) (by assumption), ← hs2]; assumption)), (by assumption), hp20, rfl, (by rfl), (by rfl)⟩
        show ((m - (i + 1)).toNat : Nat) < ((m - i).toNat : Nat)
        omega
      · skip
        refine RunC.skip ?_
        refine kblock_n ?_
        refine kseq_n ?_
        refine RunC.region ?_
        refine RunR.sil hU [0] 2 2 [0, 1, 9, 10, 11] [(0, pt d), (1, .slice K ks.length kc), (9, .slice Wa m wc), (10, .int .i64 ((m : Nat) : Int)), (11, .int .i64 (i + 1))] ((-9223372036854775808 ≤ (i + 1) ∧ (i + 1) < 9223372036854775808) ∧ (True) ∧ True) rfl (by kernel_rfl) ⟨(by omega), trivial, trivial⟩ ?_
        refine RunR.dn ?_
        refine kloop_n _ [0, 1, 9, 10, 11] [1, 1, 1, 1, 1] [(0, pt d), (1, .slice K ks.length kc), (9, .slice Wa m wc), (10, .int .i64 ((m : Nat) : Int)), (11, .int .i64 (i + 1))] [row 5 1 (.slice A n c) n (nums .u8 s2), blk d 70 [.slice A n c, .slice Wa m wc, .int .i64 lf, .bool dn], row 51 2 (.slice Wa m wc) m (chV ws), chd .u8 ws, vw K (bls ks)] (by kernel_rfl) (by kernel_rfl) ?_ ⟨(i + 1), s2, (by omega), (by assumption), (by rw [show (i + 1).toNat = i.toNat + 1 by omega]; (rw [crash_no (by (intro h; simp_all))]; exact hs2)), (by assumption), hs2i, rfl, (by rfl), (by rfl)⟩
        show ((m - (i + 1)).toNat : Nat) < ((m - i).toNat : Nat)
        omega
    · skip
      refine RunR.enveq [(0, pt d), (1, .slice K ks.length kc), (4, .int .i64 i), (5, pt b14), (9, .slice Wa m wc), (10, .int .i64 ((m : Nat) : Int)), (11, .int .i64 i), (20, .bool false)] (by rw [decide_eq_false h15]; try rfl) ?_
      refine RunR.sl hU [] 5 10 [0, 1, 5, 9, 10, 11, 25] [(0, pt d), (1, .slice K ks.length kc), (5, pt b14), (9, .slice Wa m wc), (10, .int .i64 ((m : Nat) : Int)), (11, .int .i64 i), (25, .bool false)] 1 ?_
      refine RunR.nn ?_
      refine RunC.cond (b := false) (by kernel_rfl) (fun h => by cases h) (fun _ => ?_)
      refine RunC.skip ?_
      refine kblock_n ?_
      refine kseq_n ?_
      refine RunC.region ?_
      refine RunR.sil hU [0] 2 2 [0, 1, 9, 10, 11] [(0, pt d), (1, .slice K ks.length kc), (9, .slice Wa m wc), (10, .int .i64 ((m : Nat) : Int)), (11, .int .i64 (i + 1))] ((-9223372036854775808 ≤ (i + 1) ∧ (i + 1) < 9223372036854775808) ∧ (True) ∧ True) rfl (by kernel_rfl) ⟨(by omega), trivial, trivial⟩ ?_
      refine RunR.dn ?_
      refine kloop_n _ [0, 1, 9, 10, 11] [1, 1, 1, 1, 1] [(0, pt d), (1, .slice K ks.length kc), (9, .slice Wa m wc), (10, .int .i64 ((m : Nat) : Int)), (11, .int .i64 (i + 1))] [row 5 1 (.slice A n c) n (nums .u8 s2), blk d 70 [.slice A n c, .slice Wa m wc, .int .i64 lf, .bool dn], row 51 2 (.slice Wa m wc) m (chV ws), chd .u8 ws, vw K (bls ks)] (by kernel_rfl) (by kernel_rfl) ?_ ⟨(i + 1), s2, (by omega), (by assumption), (by rw [show (i + 1).toNat = i.toNat + 1 by omega]; (rw [crash_no (by omega)]; exact hs2)), (by assumption), hs2i, rfl, (by rfl), (by rfl)⟩
      show ((m - (i + 1)).toNat : Nat) < ((m - i).toNat : Nat)
      omega
  · skip
    refine RunC.exit ?_
    refine kseq_e ?_
    refine kloop_e ?_
    refine kblock_e ?_
    refine kseq_n ?_
    refine RunC.region ?_
    refine RunR.sl hU [] 5 5 [31, 32, 34] [(31, pt d), (32, pt d), (34, .pointer (some ⟨d, 1, none⟩))] 5 ?_
    refine RunR.st none (.store 28 (.tmp 34) (.const (.slice none 0 0))) (Step.store_blk hU 1 d 1 70 [.slice A n c, .slice Wa m wc, .int .i64 lf, .bool dn] (.slice none 0 0) (by kernel_rfl) (by kernel_rfl) (by kernel_rfl) 1 rfl [.slice none 0 0] (by kernel_rfl) rfl (by kernel_rfl) (by simp) ?_)
    refine RunR.sl hU [] 2 8 [32, 36] [(32, pt d), (36, .pointer (some ⟨d, 2, none⟩))] 2 ?_
    refine RunR.st none (.store 3 (.tmp 36) (.const (.int .i64 0))) (Step.store_blk hU 0 d 2 70 [.slice A n c, .slice none 0 0, .int .i64 lf, .bool dn] (.int .i64 0) (by kernel_rfl) (by kernel_rfl) (by kernel_rfl) 1 rfl [.int .i64 0] (by kernel_rfl) rfl (by kernel_rfl) (by simp) ?_)
    refine RunR.sl hU [] 2 11 [38] [(38, .pointer (some ⟨d, 3, none⟩))] 2 ?_
    refine RunR.st none (.store 4 (.tmp 38) (.const (.bool false))) (Step.store_blk hU 0 d 3 70 [.slice A n c, .slice none 0 0, .int .i64 0, .bool dn] (.bool false) (by kernel_rfl) (by kernel_rfl) (by kernel_rfl) 1 rfl [.bool false] (by kernel_rfl) rfl (by kernel_rfl) (by simp) ?_)
    refine RunR.dn ?_
    refine kret_nt ([chd .u8 ([] : List Ch), row 51 2 (.slice none 0 0) 0 (chV ([] : List Ch)), blk d 70 [.slice A n c, .slice none 0 0, .int .i64 0, .bool false], row 5 1 (.slice A n c) n (nums .u8 s2), row 51 2 (.slice Wa m wc) m (chV ws), chd .u8 ws, vw K (bls ks)]) (fun w0 W w hs => ((hs).nil_row 51 2).chd0 .u8) [] [2, 2, 1, 0] [blk d 70 [.slice A n c, .slice none 0 0, .int .i64 0, .bool false], row 5 1 (.slice A n c) n (nums .u8 s2), row 51 2 (.slice none 0 0) 0 (chV ([] : List Ch)), chd .u8 ([] : List Ch)] trivial (by kernel_rfl) rfl ⟨s2, rfl, rfl, (by rw [hs2, crashP, show (dat ws).length = i.toNat by rw [dat_len]; omega]), (by exact hs2i), (by exact hs2l)⟩
end Go.Proofs.Ytaaplakahkgclaa.X5
