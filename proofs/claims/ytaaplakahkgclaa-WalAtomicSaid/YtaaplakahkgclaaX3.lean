/- What these functions compute: a contract for each, walked through its code. -/
import Derived.Test.YtaaplakahkgclaaSLzk
import Derived.Test.YtaaplakahkgclaaBPure
import Derived.Test.YtaaplakahkgclaaProg
import Derived.Test.YtaaplakahkgclaaX1
import Derived.Test.YtaaplakahkgclaaX2
namespace Go.Proofs.Ytaaplakahkgclaa.X3
open Go Go.Proofs.Ytaaplakahkgclaa.SL Go.Proofs.Ytaaplakahkgclaa.SL.W Go.Proofs.Ytaaplakahkgclaa.SL.D Go.Proofs.Ytaaplakahkgclaa.X1 Go.Proofs.Ytaaplakahkgclaa.X2
set_option linter.unusedVariables false
set_option linter.unusedSimpArgs false
set_option maxRecDepth 100000
set_option maxHeartbeats 40000000
def U : Tab where
  und := [(3, .int .i64), (4, .bool), (5, .int .u8), (23, .slice 5), (28, .slice 51), (50, .struct #[{ name := "Block", type := 3, offset := 0, embedded := false, tag := "", pkgPath := "", byteOffset := 0 }, { name := "Data", type := 23, offset := 1, embedded := false, tag := "", pkgPath := "", byteOffset := 8 }]), (51, .struct #[{ name := "Block", type := 3, offset := 0, embedded := false, tag := "", pkgPath := "", byteOffset := 0 }, { name := "Data", type := 23, offset := 1, embedded := false, tag := "", pkgPath := "", byteOffset := 8 }]), (69, .struct #[{ name := "safe", type := 23, offset := 0, embedded := false, tag := "", pkgPath := "orlop/disk", byteOffset := 0 }, { name := "wait", type := 28, offset := 1, embedded := false, tag := "", pkgPath := "orlop/disk", byteOffset := 24 }, { name := "left", type := 3, offset := 2, embedded := false, tag := "", pkgPath := "orlop/disk", byteOffset := 48 }, { name := "down", type := 4, offset := 3, embedded := false, tag := "", pkgPath := "orlop/disk", byteOffset := 56 }]), (70, .struct #[{ name := "safe", type := 23, offset := 0, embedded := false, tag := "", pkgPath := "orlop/disk", byteOffset := 0 }, { name := "wait", type := 28, offset := 1, embedded := false, tag := "", pkgPath := "orlop/disk", byteOffset := 24 }, { name := "left", type := 3, offset := 2, embedded := false, tag := "", pkgPath := "orlop/disk", byteOffset := 48 }, { name := "down", type := 4, offset := 3, embedded := false, tag := "", pkgPath := "orlop/disk", byteOffset := 56 }])]
  fld := [((50, 0), (0, 3)), ((50, 1), (1, 23)), ((51, 0), (0, 3)), ((51, 1), (1, 23)), ((69, 0), (0, 23)), ((69, 1), (1, 28)), ((69, 2), (2, 3)), ((69, 3), (3, 4)), ((70, 0), (0, 23)), ((70, 1), (1, 28)), ((70, 2), (2, 3)), ((70, 3), (3, 4))]
  sz := [(3, 1), (4, 1), (5, 1), (23, 1), (28, 1), (50, 2), (51, 2), (69, 4), (70, 4)]
  ti := [(3, (1, 8, .int .i64 0)), (4, (1, 1, .bool false)), (5, (1, 1, .int .u8 0)), (23, (1, 24, .slice none 0 0)), (28, (1, 24, .slice none 0 0)), (50, (2, 32, .agg #[.int .i64 0, .slice none 0 0])), (51, (2, 32, .agg #[.int .i64 0, .slice none 0 0])), (69, (4, 64, .agg #[.slice none 0 0, .slice none 0 0, .int .i64 0, .bool false])), (70, (4, 64, .agg #[.slice none 0 0, .slice none 0 0, .int .i64 0, .bool false]))]
  bld := [(50, [(0, 1), (1, 1)]), (51, [(0, 1), (1, 1)]), (69, [(0, 1), (1, 1), (2, 1), (3, 1)]), (70, [(0, 1), (1, 1), (2, 1), (3, 1)])]

theorem hU : U.OK Try.prog where
  und := by
    intro p hp
    simp only [U, List.mem_cons, List.not_mem_nil, or_false] at hp
    rcases hp with rfl | rfl | rfl | rfl | rfl | rfl | rfl | rfl | rfl
    · exact Try.underlying3
    · exact Try.underlying4
    · exact Try.underlying5
    · exact Try.underlying23
    · exact Try.underlying28
    · exact Try.underlying50
    · exact Try.underlying51
    · exact Try.underlying69
    · exact Try.underlying70
  fld := by
    intro p hp
    simp only [U, List.mem_cons, List.not_mem_nil, or_false] at hp
    rcases hp with rfl | rfl | rfl | rfl | rfl | rfl | rfl | rfl | rfl | rfl | rfl | rfl
    · exact ⟨_, _, Try.underlying50, rfl, rfl, rfl, Try.prog.types[3]!, by kernel_rfl, by decide +kernel⟩
    · exact ⟨_, _, Try.underlying50, rfl, rfl, rfl, Try.prog.types[23]!, by kernel_rfl, by decide +kernel⟩
    · exact ⟨_, _, Try.underlying51, rfl, rfl, rfl, Try.prog.types[3]!, by kernel_rfl, by decide +kernel⟩
    · exact ⟨_, _, Try.underlying51, rfl, rfl, rfl, Try.prog.types[23]!, by kernel_rfl, by decide +kernel⟩
    · exact ⟨_, _, Try.underlying69, rfl, rfl, rfl, Try.prog.types[23]!, by kernel_rfl, by decide +kernel⟩
    · exact ⟨_, _, Try.underlying69, rfl, rfl, rfl, Try.prog.types[28]!, by kernel_rfl, by decide +kernel⟩
    · exact ⟨_, _, Try.underlying69, rfl, rfl, rfl, Try.prog.types[3]!, by kernel_rfl, by decide +kernel⟩
    · exact ⟨_, _, Try.underlying69, rfl, rfl, rfl, Try.prog.types[4]!, by kernel_rfl, by decide +kernel⟩
    · exact ⟨_, _, Try.underlying70, rfl, rfl, rfl, Try.prog.types[23]!, by kernel_rfl, by decide +kernel⟩
    · exact ⟨_, _, Try.underlying70, rfl, rfl, rfl, Try.prog.types[28]!, by kernel_rfl, by decide +kernel⟩
    · exact ⟨_, _, Try.underlying70, rfl, rfl, rfl, Try.prog.types[3]!, by kernel_rfl, by decide +kernel⟩
    · exact ⟨_, _, Try.underlying70, rfl, rfl, rfl, Try.prog.types[4]!, by kernel_rfl, by decide +kernel⟩
  sz := by
    intro p hp
    simp only [U, List.mem_cons, List.not_mem_nil, or_false] at hp
    rcases hp with rfl | rfl | rfl | rfl | rfl | rfl | rfl | rfl | rfl
    · exact ⟨Try.prog.types[3]!, by kernel_rfl, by kernel_rfl⟩
    · exact ⟨Try.prog.types[4]!, by kernel_rfl, by kernel_rfl⟩
    · exact ⟨Try.prog.types[5]!, by kernel_rfl, by kernel_rfl⟩
    · exact ⟨Try.prog.types[23]!, by kernel_rfl, by kernel_rfl⟩
    · exact ⟨Try.prog.types[28]!, by kernel_rfl, by kernel_rfl⟩
    · exact ⟨Try.prog.types[50]!, by kernel_rfl, by kernel_rfl⟩
    · exact ⟨Try.prog.types[51]!, by kernel_rfl, by kernel_rfl⟩
    · exact ⟨Try.prog.types[69]!, by kernel_rfl, by kernel_rfl⟩
    · exact ⟨Try.prog.types[70]!, by kernel_rfl, by kernel_rfl⟩
  ti := by
    intro p hp
    simp only [U, List.mem_cons, List.not_mem_nil, or_false] at hp
    rcases hp with rfl | rfl | rfl | rfl | rfl | rfl | rfl | rfl | rfl
    · exact ⟨Try.prog.types[3]!, by kernel_rfl, by kernel_rfl, by kernel_rfl, by kernel_rfl⟩
    · exact ⟨Try.prog.types[4]!, by kernel_rfl, by kernel_rfl, by kernel_rfl, by kernel_rfl⟩
    · exact ⟨Try.prog.types[5]!, by kernel_rfl, by kernel_rfl, by kernel_rfl, by kernel_rfl⟩
    · exact ⟨Try.prog.types[23]!, by kernel_rfl, by kernel_rfl, by kernel_rfl, by kernel_rfl⟩
    · exact ⟨Try.prog.types[28]!, by kernel_rfl, by kernel_rfl, by kernel_rfl, by kernel_rfl⟩
    · exact ⟨Try.prog.types[50]!, by kernel_rfl, by kernel_rfl, by kernel_rfl, by kernel_rfl⟩
    · exact ⟨Try.prog.types[51]!, by kernel_rfl, by kernel_rfl, by kernel_rfl, by kernel_rfl⟩
    · exact ⟨Try.prog.types[69]!, by kernel_rfl, by kernel_rfl, by kernel_rfl, by kernel_rfl⟩
    · exact ⟨Try.prog.types[70]!, by kernel_rfl, by kernel_rfl, by kernel_rfl, by kernel_rfl⟩
  bld := by
    intro p hp
    simp only [U, List.mem_cons, List.not_mem_nil, or_false] at hp
    rcases hp with rfl | rfl | rfl | rfl
    · exact ⟨_, Try.underlying50, by kernel_rfl⟩
    · exact ⟨_, Try.underlying51, by kernel_rfl⟩
    · exact ⟨_, Try.underlying69, by kernel_rfl⟩
    · exact ⟨_, Try.underlying70, by kernel_rfl⟩
  mixed := by kernel_rfl

theorem d_Write_spec (d : Nat) (A : Option Addr) (n : Nat) (c : Nat) (ss : List Int) (Wa : Option Addr) (m : Nat) (wc : Nat) (ws : List Ch) (lf : Int) (dn : Bool) (b : Int) (A8 : Option Addr) (c8 : Nat) (bs : List Int) (l_bs : Nat) (hss : In .u8 ss) (hnl : ss.length = n) (hnc : n ≤ c) (hAs : 0 < n → Option.isSome A = true) (hn6 : n % 256 = 0) (hnb : n ≤ 557056) (hml : ws.length = m) (hmb : m ≤ 1000000) (hok : ChOK .u8 ws) (hwk : WOK n ws) (hWs : 0 < m → Option.isSome Wa = true) (hlf : 0 ≤ lf ∧ lf < 9223372036854775808) (hb : fits .i64 b) (hIbs : In .u8 bs) (hCbs : bs.length ≤ c8) (hBbs : bs.length ≤ 140737488351232) (hl_bs : bs.length = l_bs) :
    CallsS Try.prog 52 [pt d, .int .i64 b, .slice A8 l_bs c8] [blk d 70 [.slice A n c, .slice Wa m wc, .int .i64 lf, .bool dn], row 5 1 (.slice A n c) n (nums .u8 ss), row 51 2 (.slice Wa m wc) m (chV ws), chd .u8 ws, vw A8 (nums .u8 bs)] (fun r D => ∃ (e : Int) (Wb : Option Addr) (m2 : Nat) (wc2 : Nat) (ws2 : List Ch) (lf2 : Int) (dn2 : Bool), r = .int .i64 e ∧ D = [blk d 70 [.slice A n c, .slice Wb m2 wc2, .int .i64 lf2, .bool dn2], row 5 1 (.slice A n c) n (nums .u8 ss), row 51 2 (.slice Wb m2 wc2) m2 (chV ws2), chd .u8 ws2] ∧ ((e, dat ws2, lf2, dn2) = writeP n (dat ws) lf dn b bs) ∧ (ws2.length = m2) ∧ (m2 ≤ m + 1) ∧ (ChOK .u8 ws2) ∧ (WOK n ws2) ∧ (0 < m2 → Option.isSome Wb = true) ∧ (0 ≤ lf2 ∧ lf2 < 9223372036854775808)) := by
  subst hl_bs
  refine CallsS.enter hU Try.f52 _ [.tmp 6] 39 Try.func52 rfl (by decide) rfl rfl (by kernel_rfl) fun w0 W => ?_
  have hb2 := hb; simp only [fits] at hb2
  refine RunC.know (p := 0 < bs.length → Option.isSome A8 = true) (fun _ _ w hs => vw_some hs 4 rfl (by (simp [nums_length]; done))) (fun hA1 => ?_)
  refine RunC.sr ?_
  refine RunR.sl hU [] 1 1 [0, 1, 2, 6] [(0, pt d), (1, .int .i64 b), (2, .slice A8 bs.length c8), (6, .int .i64 0)] 1 ?_
  refine RunR.nn ?_
  refine RunC.seq ?_
  refine RunC.block ?_
  refine RunC.sr ?_
  refine RunR.sl hU [] 2 2 [0, 1, 2, 6, 9, 10] [(0, pt d), (1, .int .i64 b), (2, .slice A8 bs.length c8), (6, .int .i64 0), (9, pt d), (10, .int .i64 b)] 2 ?_
  refine RunR.st (some 11) (.call { callee := .value (.func 70), args := #[.tmp 9, .tmp 10], argTypes := #[30, 3] }) (Step.cn 70 [pt d, .int .i64 b] [blk d 70 [.slice A n c, .slice Wa m wc, .int .i64 lf, .bool dn]] [row 5 1 (.slice A n c) n (nums .u8 ss), row 51 2 (.slice Wa m wc) m (chV ws), chd .u8 ws, vw A8 (nums .u8 bs)] (d_there_spec d A n c Wa m wc lf dn b (by assumption) (by assumption)) [0] ?_)
  rintro _ _ ⟨rfl, rfl⟩
  refine RunR.sl hU [] 2 5 [0, 1, 2, 6, 13] [(0, pt d), (1, .int .i64 b), (2, .slice A8 bs.length c8), (6, .int .i64 0), (13, .bool (!decide (0 ≤ b ∧ 256 * b + 256 ≤ (n : Int))))] 2 ?_
  refine RunR.ev [0, 1, 2, 6, 13] [(0, pt d), (1, .int .i64 b), (2, .slice A8 bs.length c8), (6, .int .i64 0), (13, .bool (!decide (0 ≤ b ∧ 256 * b + 256 ≤ (n : Int))))] ?_
  by_cases h2 : 0 ≤ b ∧ 256 * b + 256 ≤ (n : Int)
  · skip
    refine RunR.enveq [(0, pt d), (1, .int .i64 b), (2, .slice A8 bs.length c8), (6, .int .i64 0), (13, .bool false)] (by rw [decide_eq_true h2]; try rfl) ?_
    refine RunR.sl hU [] 5 10 [0, 1, 2, 6, 8] [(0, pt d), (1, .int .i64 b), (2, .slice A8 bs.length c8), (6, .int .i64 0), (8, .bool (!decide (((bs.length : Nat) : Int) = 256)))] 5 ?_
    refine RunR.nn ?_
    refine RunC.condn (((bs.length : Nat) : Int) = 256) (by kernel_rfl) (fun h3 => ?_) (fun h3 => ?_)
    · skip
      refine RunC.sr ?_
      refine RunR.sl hU [] 1 1 [0, 1, 2, 6] [(0, pt d), (1, .int .i64 b), (2, .slice A8 bs.length c8), (6, .int .i64 1)] 1 ?_
      refine RunR.nn ?_
      refine RunC.ret ?_
      refine kblock_r ?_
      refine kseq_r ?_
      refine kret_r [.int .i64 1] [0, 0, 0, 0] [blk d 70 [.slice A n c, .slice Wa m wc, .int .i64 lf, .bool dn], row 5 1 (.slice A n c) n (nums .u8 ss), row 51 2 (.slice Wa m wc) m (chV ws), chd .u8 ws] ⟨rfl, trivial⟩ (by kernel_rfl) rfl ⟨1, Wa, m, wc, ws, lf, dn, rfl, rfl, (by exact write_bad (.inr (by omega))), (by assumption), (by omega), (by assumption), (by assumption), (by assumption), (by assumption)⟩
    · skip
      refine RunC.sr ?_
      refine RunR.sl hU [] 3 3 [0, 1, 2, 6, 21] [(0, pt d), (1, .int .i64 b), (2, .slice A8 bs.length c8), (6, .int .i64 0), (21, .pointer (some ⟨d, 3, none⟩))] 3 ?_
      refine RunR.st (some 22) (.load 4 (.tmp 21)) (Step.load_blk hU 0 d (3) 70 [.slice A n c, .slice Wa m wc, .int .i64 lf, .bool dn] (.bool dn) (by kernel_rfl) (by kernel_rfl) (by kernel_rfl) (by kernel_rfl) ?_)
      refine RunR.sl hU [] 1 5 [0, 1, 2, 6, 18] [(0, pt d), (1, .int .i64 b), (2, .slice A8 bs.length c8), (6, .int .i64 0), (18, .bool dn)] 1 ?_
      refine RunR.nn ?_
      refine RunC.cond (b := dn) (by kernel_rfl) (fun h4 => ?_) (fun h4 => ?_)
      · skip
        refine RunC.sr ?_
        refine RunR.sl hU [] 1 1 [0, 1, 2, 6] [(0, pt d), (1, .int .i64 b), (2, .slice A8 bs.length c8), (6, .int .i64 11)] 1 ?_
        refine RunR.nn ?_
        refine RunC.ret ?_
        refine kblock_r ?_
        refine kseq_r ?_
        refine kret_r [.int .i64 11] [0, 0, 0, 0] [blk d 70 [.slice A n c, .slice Wa m wc, .int .i64 lf, .bool dn], row 5 1 (.slice A n c) n (nums .u8 ss), row 51 2 (.slice Wa m wc) m (chV ws), chd .u8 ws] ⟨rfl, trivial⟩ (by kernel_rfl) rfl ⟨11, Wa, m, wc, ws, lf, dn, rfl, rfl, (by exact write_down (by omega) (by omega) (by omega) (by assumption)), (by assumption), (by omega), (by assumption), (by assumption), (by assumption), (by assumption)⟩
      · skip
        refine RunC.skip ?_
        refine kblock_n ?_
        refine kseq_n ?_
        refine RunC.sr ?_
        refine RunR.sl hU [] 1 1 [0, 1, 2, 6, 23] [(0, pt d), (1, .int .i64 b), (2, .slice A8 bs.length c8), (6, .int .i64 0), (23, pt d)] 1 ?_
        refine RunR.st (some 24) (.call { callee := .value (.func 68), args := #[.tmp 23], argTypes := #[30] }) (Step.cn 68 [pt d] [blk d 70 [.slice A n c, .slice Wa m wc, .int .i64 lf, .bool dn]] [row 5 1 (.slice A n c) n (nums .u8 ss), row 51 2 (.slice Wa m wc) m (chV ws), chd .u8 ws, vw A8 (nums .u8 bs)] (d_act_spec d A n c Wa m wc lf dn (by assumption)) [0] ?_)
        rintro _ _ ⟨lf25, dn26, rfl, rfl, hp7, hp8⟩
        refine RunR.sl hU [] 1 3 [0, 1, 2, 6, 7] [(0, pt d), (1, .int .i64 b), (2, .slice A8 bs.length c8), (6, .int .i64 0), (7, .bool dn26)] 1 ?_
        refine RunR.nn ?_
        refine RunC.seq ?_
        refine RunC.regionU hU 14 [blk d 70 [.slice A n c, .slice Wa m wc, .int .i64 lf25, .bool dn26]] [0] [10, 11, 12, 13] (bm 14 0) (by kernel_rfl) (by kernel_rfl) (by kernel_rfl) ?_
        refine RunU.sl hU 0 (bm 14 1) 25 (pt d) ?_
        refine RunU.sl hU 1 (bm 14 3) 26 (pt d) ?_
        refine RunU.sl hU 2 (bm 14 7) 27 (pt d) ?_
        refine RunU.sl hU 3 (bm 14 15) 28 (.pointer (some ⟨d, 1, none⟩)) ?_
        refine RunU.rd 4 (bm 14 31) 29 (.load 28 (.tmp 28)) (.slice Wa m wc) [0] (Reads.load_blk hU 0 d (1) 70 [.slice A n c, .slice Wa m wc, .int .i64 lf25, .bool dn26] (.slice Wa m wc) (by kernel_rfl) (by kernel_rfl) (by kernel_rfl)) ?_
        refine RunU.sl hU 5 (bm 14 63) 30 (.int .i64 b) ?_
        refine RunU.sl hU 6 (bm 14 127) 31 (.slice A8 bs.length c8) ?_
        refine RunU.on (some 32) (.call { callee := .value (.func 51), args := #[.tmp 31], argTypes := #[23] }) 7 (bm 14 255) [1] (Step.cl 51 [.slice A8 bs.length c8] [] [vw A8 (nums .u8 bs)] [blk d 70 [.slice A n c, .slice Wa m wc, .int .i64 lf25, .bool dn26], row 5 1 (.slice A n c) n (nums .u8 ss), row 51 2 (.slice Wa m wc) m (chV ws), chd .u8 ws, vw A8 (nums .u8 bs)] (d_Clone_spec A8 c8 bs bs.length hIbs (by assumption) (by assumption) (by rfl)) [] ((Lend.nil _).tells 4 (vw A8 (nums .u8 bs)) A8 (nums .u8 bs) (by kernel_rfl) (tells_vw _ _)) ?_)
        rintro _ _ ⟨A99, c910, zs11, rfl, rfl, hp12, hp13, hp14, hp15, hp16⟩
        refine orL ?_
        refine RunU.sl hU 8 (bm 14 511) 33 (.agg #[.int .i64 b, .slice A99 zs11.length c910]) ?_
        refine RunU.on (some 34) (.buildSlice 28 1 #[(0, .tmp 33)]) 9 (bm 14 1023) [2] (Step.lit_pair hU 51 32 (.agg #[.int .i64 0, .slice none 0 0]) (.int .i64 b) (.slice A99 zs11.length c910) (by kernel_rfl) (by kernel_rfl) (by kernel_rfl) rfl rfl (by kernel_rfl) (fun b17 => ?_))
        refine orL ?_
        refine RunU.turn ([row 51 2 (.slice (some ⟨b17, 0, none⟩) 1 1) 1 (chV ([(b, A99, c910, zs11)] : List Ch)), row 5 1 (.slice A99 zs11.length c910) zs11.length (nums .u8 zs11), blk d 70 [.slice A n c, .slice Wa m wc, .int .i64 lf25, .bool dn26], row 5 1 (.slice A n c) n (nums .u8 ss), row 51 2 (.slice Wa m wc) m (chV ws), chd .u8 ws, vw A8 (nums .u8 bs)]) (fun _ _ w hs => hs) ?_
        refine RunU.on (some 35) (.call { callee := .builtin .append, args := #[.tmp 29, .tmp 34], argTypes := #[28, 28] }) 10 (bm 14 2047) [] (Step.append_ch hU 51 32 (.agg #[.int .i64 0, .slice none 0 0]) 4 0 Wa m wc ws (some ⟨b17, 0, none⟩) 1 1 (row 51 2 (.slice (some ⟨b17, 0, none⟩) 1 1) 1 (chV ([(b, A99, c910, zs11)] : List Ch))) ([(b, A99, c910, zs11)] : List Ch) (by kernel_rfl) (by kernel_rfl) (by kernel_rfl) (by kernel_rfl) (by kernel_rfl) (by kernel_rfl) (by kernel_rfl) (tells_row _ _ _ _ _ _) rfl (by omega) (by omega) (by kernel_rfl) (fun Aq18 cq19 hc20 hA21 => ?_))
        refine orR ?_
        refine RunU.turn ([chd .u8 (ws ++ ([(b, A99, c910, zs11)] : List Ch)), row 51 2 (.slice Aq18 (m + 1) cq19) (m + 1) (chV (ws ++ ([(b, A99, c910, zs11)] : List Ch))), row 51 2 (.slice (some ⟨b17, 0, none⟩) 1 1) 1 (chV ([(b, A99, c910, zs11)] : List Ch)), blk d 70 [.slice A n c, .slice Wa m wc, .int .i64 lf25, .bool dn26], row 5 1 (.slice A n c) n (nums .u8 ss), vw A8 (nums .u8 bs)]) (fun _ _ w hs => SAT.chdPush b A99 c910 zs11 rfl (tells_row _ _ _ _ _ _) (hs.pulls2 [2, 4] ([row 5 1 (.slice A99 zs11.length c910) zs11.length (nums .u8 zs11), chd .u8 ws, row 51 2 (.slice Aq18 (m + 1) cq19) (m + 1) (chV (ws ++ ([(b, A99, c910, zs11)] : List Ch))), row 51 2 (.slice (some ⟨b17, 0, none⟩) 1 1) 1 (chV ([(b, A99, c910, zs11)] : List Ch)), blk d 70 [.slice A n c, .slice Wa m wc, .int .i64 lf25, .bool dn26], row 5 1 (.slice A n c) n (nums .u8 ss), vw A8 (nums .u8 bs)]) (by kernel_rfl))) ?_
        refine RunU.sl hU 11 (bm 14 4095) 36 (pt d) ?_
        refine RunU.sl hU 12 (bm 14 8191) 37 (.pointer (some ⟨d, 1, none⟩)) ?_
        refine RunU.on none (.store 28 (.tmp 37) (.tmp 35)) 13 (bm 14 16383) [] (Step.store_blk hU 3 d 1 70 [.slice A n c, .slice Wa m wc, .int .i64 lf25, .bool dn26] (.slice Aq18 (m + 1) cq19) (by kernel_rfl) (by kernel_rfl) (by kernel_rfl) 1 rfl [.slice Aq18 (m + 1) cq19] (by kernel_rfl) rfl (by kernel_rfl) (by simp) ?_)
        refine orR ?_
        refine RunU.ev [6, 7] [(6, .int .i64 0), (7, .bool dn26)] ?_
        refine RunU.dn ?_
        refine kseq_n ?_
        refine RunC.seq ?_
        refine RunC.sr ?_
        refine RunR.sl hU [] 1 1 [6, 38] [(6, .int .i64 0), (38, .bool dn26)] 1 ?_
        refine RunR.nn ?_
        refine RunC.cond (b := dn26) (by kernel_rfl) (fun h22 => ?_) (fun h22 => ?_)
        · skip
          refine RunC.sr ?_
          refine RunR.sl hU [] 1 1 [6] [(6, .int .i64 11)] 1 ?_
          refine RunR.nn ?_
          refine RunC.ret ?_
          refine kseq_r ?_
          refine kret_r [.int .i64 11] [0, 3, 1, 0] [blk d 70 [.slice A n c, .slice Aq18 (m + 1) cq19, .int .i64 lf25, .bool dn26], row 5 1 (.slice A n c) n (nums .u8 ss), row 51 2 (.slice Aq18 (m + 1) cq19) (m + 1) (chV (ws ++ ([(b, A99, c910, zs11)] : List Ch))), chd .u8 (ws ++ ([(b, A99, c910, zs11)] : List Ch))] ⟨rfl, trivial⟩ (by kernel_rfl) rfl ⟨11, Aq18, (m + 1), cq19, (ws ++ ([(b, A99, c910, zs11)] : List Ch)), lf25, dn26, rfl, rfl, (by exact write_go (by omega) (by omega) (by omega) (by assumption) hp7 hp12 (by rw [if_pos (by assumption)])), (by simp only [List.length_append, List.length_cons, List.length_nil]; omega), (by omega), (by exact hok.append (ChOK.one (by refine ⟨?_, ?_⟩ <;> omega) (by assumption) (by assumption) (by omega))), (by exact hwk.app (by omega) (by omega) (by omega)), (by assumption), (by assumption)⟩
        · skip
          refine RunC.ksr ?_
          refine RunR.sl hU [] 1 1 [6] [(6, .int .i64 0)] 1 ?_
          refine RunR.nn ?_
          refine RunC.ret ?_
          refine kret_r [.int .i64 0] [0, 3, 1, 0] [blk d 70 [.slice A n c, .slice Aq18 (m + 1) cq19, .int .i64 lf25, .bool dn26], row 5 1 (.slice A n c) n (nums .u8 ss), row 51 2 (.slice Aq18 (m + 1) cq19) (m + 1) (chV (ws ++ ([(b, A99, c910, zs11)] : List Ch))), chd .u8 (ws ++ ([(b, A99, c910, zs11)] : List Ch))] ⟨rfl, trivial⟩ (by kernel_rfl) rfl ⟨0, Aq18, (m + 1), cq19, (ws ++ ([(b, A99, c910, zs11)] : List Ch)), lf25, dn26, rfl, rfl, (by exact write_go (by omega) (by omega) (by omega) (by assumption) hp7 hp12 (by rw [if_neg (Bool.eq_false_iff.1 (by assumption))])), (by simp only [List.length_append, List.length_cons, List.length_nil]; omega), (by omega), (by exact hok.append (ChOK.one (by refine ⟨?_, ?_⟩ <;> omega) (by assumption) (by assumption) (by omega))), (by exact hwk.app (by omega) (by omega) (by omega)), (by assumption), (by assumption)⟩
  · skip
    refine RunR.enveq [(0, pt d), (1, .int .i64 b), (2, .slice A8 bs.length c8), (6, .int .i64 0), (13, .bool true)] (by rw [decide_eq_false h2]; try rfl) ?_
    refine RunR.sl hU [] 5 10 [0, 1, 2, 6, 8] [(0, pt d), (1, .int .i64 b), (2, .slice A8 bs.length c8), (6, .int .i64 0), (8, .bool true)] 2 ?_
    refine RunR.nn ?_
    refine RunC.cond (b := true) (by kernel_rfl) (fun _ => ?_) (fun h => by cases h)
    refine RunC.sr ?_
    refine RunR.sl hU [] 1 1 [0, 1, 2, 6] [(0, pt d), (1, .int .i64 b), (2, .slice A8 bs.length c8), (6, .int .i64 1)] 1 ?_
    refine RunR.nn ?_
    refine RunC.ret ?_
    refine kblock_r ?_
    refine kseq_r ?_
    refine kret_r [.int .i64 1] [0, 0, 0, 0] [blk d 70 [.slice A n c, .slice Wa m wc, .int .i64 lf, .bool dn], row 5 1 (.slice A n c) n (nums .u8 ss), row 51 2 (.slice Wa m wc) m (chV ws), chd .u8 ws] ⟨rfl, trivial⟩ (by kernel_rfl) rfl ⟨1, Wa, m, wc, ws, lf, dn, rfl, rfl, (by exact write_bad (.inl (by omega))), (by assumption), (by omega), (by assumption), (by assumption), (by assumption), (by assumption)⟩

theorem d_put_spec (d : Nat) (A : Option Addr) (n : Nat) (c : Nat) (ss : List Int) (Wa : Option Addr) (m : Nat) (wc : Nat) (lf : Int) (dn : Bool) (b : Int) (A8 : Option Addr) (c8 : Nat) (bs : List Int) (l_bs : Nat) (hss : In .u8 ss) (hnl : ss.length = n) (hnc : n ≤ c) (hAs : 0 < n → Option.isSome A = true) (hn6 : n % 256 = 0) (hnb : n ≤ 557056) (hb0 : 0 ≤ b) (hb1 : 256 * b + 256 ≤ n) (hbl : bs.length = 256) (hbi : In .u8 bs) (hbc : bs.length ≤ c8) (hl_bs : bs.length = l_bs) :
    CallsS Try.prog 50 [pt d, .agg #[.int .i64 b, .slice A8 l_bs c8]] [blk d 70 [.slice A n c, .slice Wa m wc, .int .i64 lf, .bool dn], row 5 1 (.slice A n c) n (nums .u8 ss), vw A8 (nums .u8 bs)] (fun r D => ∃ (ss2 : List Int), r = .tuple #[] ∧ D = [blk d 70 [.slice A n c, .slice Wa m wc, .int .i64 lf, .bool dn], row 5 1 (.slice A n c) n (nums .u8 ss2)] ∧ (ss2 = putP ss (b, bs)) ∧ (ss2.length = n) ∧ (In .u8 ss2)) := by
  subst hl_bs
  refine CallsS.enter hU Try.f50 _ [] 15 Try.func50 rfl (by decide) rfl rfl (by kernel_rfl) fun w0 W => ?_
  refine RunC.know (p := 0 < bs.length → Option.isSome A8 = true) (fun _ _ w hs => vw_some hs 2 rfl (by (simp [nums_length]; done))) (fun hA1 => ?_)
  refine RunC.sr ?_
  refine RunR.st (some 3) (.box 51 (.tmp 1)) (Step.box (.agg #[.int .i64 b, .slice A8 bs.length c8]) (by kernel_rfl) (by kernel_rfl) (fun b2 => ?_))
  refine RunR.nn ?_
  refine RunC.regionU hU 11 [blk d 70 [.slice A n c, .slice Wa m wc, .int .i64 lf, .bool dn], blk b2 51 [.int .i64 b, .slice A8 bs.length c8]] [1, 0] [10] (bm 11 0) (by kernel_rfl) (by kernel_rfl) (by kernel_rfl) ?_
  refine RunU.sl hU 0 (bm 11 1) 4 (pt d) ?_
  refine RunU.sl hU 1 (bm 11 3) 5 (pt d) ?_
  refine RunU.sl hU 2 (bm 11 7) 6 (pt d) ?_
  refine RunU.rd 3 (bm 11 15) 7 (.load 23 (.tmp 6)) (.slice A n c) [1, 0] (Reads.load_blk hU 0 d (0) 70 [.slice A n c, .slice Wa m wc, .int .i64 lf, .bool dn] (.slice A n c) (by kernel_rfl) (by kernel_rfl) (by kernel_rfl)) ?_
  refine RunU.sl hU 4 (bm 11 31) 8 (pt b2) ?_
  refine RunU.rd 5 (bm 11 63) 9 (.load 3 (.tmp 8)) (.int .i64 b) [1, 0] (Reads.load_blk hU 1 b2 (0) 51 [.int .i64 b, .slice A8 bs.length c8] (.int .i64 b) (by kernel_rfl) (by kernel_rfl) (by kernel_rfl)) ?_
  refine RunU.sil hU true 6 (bm 11 127) 10 (.int .i64 (256 * b)) (-9223372036854775808 ≤ (256 * b) ∧ (256 * b) < 9223372036854775808) (by kernel_rfl) (by omega) (by kernel_rfl) (by kernel_rfl) (fun _ _ _ h => h) ?_
  refine RunU.sil hU false 7 (bm 11 255) 11 (.slice (subBase A ((256 * b).toNat) c 1) (n - ((256 * b).toNat)) (c - ((256 * b).toNat))) (0 ≤ (256 * b) ∧ (256 * b) ≤ ((n : Nat) : Int)) (by kernel_rfl) (by omega) (by kernel_rfl) (by kernel_rfl) (fun _ _ _ h => h) ?_
  obtain ⟨zs3, hz4⟩ : ∃ z : List Int, z = (ss.drop ((256 * b).toNat)).take (n - ((256 * b).toNat)) := ⟨_, rfl⟩
  have hl5 : zs3.length = n - ((256 * b).toNat) := by rw [hz4, List.length_take, List.length_drop]; omega
  have hB7_t : Tells (row 5 1 (.slice A n c) n (nums .u8 ss)) (subBase A ((256 * b).toNat) c 1) (nums .u8 zs3) := by rw [hz4]; exact tells_sub_nums (tells_row _ _ _ _ _ _) _ _ _ (by omega) (by omega)
  have hA8 : 0 < zs3.length → Option.isSome (subBase A ((256 * b).toNat) c 1) = true := fun h => part_some (hAs (by omega)) _ _ _
  refine RunU.ev [0, 1, 3, 4, 5, 6, 7, 8, 9, 10, 11] [(0, pt d), (1, .agg #[.int .i64 b, .slice A8 bs.length c8]), (3, pt b2), (4, pt d), (5, pt d), (6, pt d), (7, .slice A n c), (8, pt b2), (9, .int .i64 b), (10, .int .i64 (256 * b)), (11, .slice (subBase A ((256 * b).toNat) c 1) (n - ((256 * b).toNat)) (c - ((256 * b).toNat)))] ?_
  refine RunU.enveq [(0, pt d), (1, .agg #[.int .i64 b, .slice A8 bs.length c8]), (3, pt b2), (4, pt d), (5, pt d), (6, pt d), (7, .slice A n c), (8, pt b2), (9, .int .i64 b), (10, .int .i64 (256 * b)), (11, .slice (subBase A ((256 * b).toNat) c 1) zs3.length (c - ((256 * b).toNat)))] (by rw [hl5]) ?_
  have hr9 : In .u8 zs3 := by rw [hz4]; exact (hss.drop _).take _
  refine RunU.sl hU 8 (bm 11 511) 12 (.pointer (some ⟨b2, 1, none⟩)) ?_
  refine RunU.rd 9 (bm 11 1023) 13 (.load 23 (.tmp 12)) (.slice A8 bs.length c8) [1, 0] (Reads.load_blk hU 1 b2 (1) 51 [.int .i64 b, .slice A8 bs.length c8] (.slice A8 bs.length c8) (by kernel_rfl) (by kernel_rfl) (by kernel_rfl)) ?_
  refine RunU.on (some 14) (.call { callee := .builtin .copy, args := #[.tmp 11, .tmp 13], argTypes := #[23, 23] }) 10 (bm 11 2047) [] (Step.copy_row hU 5 2 3 ((256 * b).toNat) n c zs3.length (c - ((256 * b).toNat)) bs.length c8 A (subBase A ((256 * b).toNat) c 1) A8 ss (vw A8 (nums .u8 bs)) .u8 bs (by kernel_rfl) (by kernel_rfl) (by kernel_rfl) (fun h b e => by rw [e]; rw [sub_at (by omega), Nat.zero_add]) (by kernel_rfl) (by kernel_rfl) (by kernel_rfl) (tells_vw _ _) (by rfl) (by omega) (by kernel_rfl) ?_)
  have hl10 : (putl ss ((256 * b).toNat) (bs.take zs3.length)).length = ss.length := putl_len (by simp only [List.length_take]; omega)
  have hr11 : In .u8 (putl ss ((256 * b).toNat) (bs.take zs3.length)) := hss.putl (hbi.take _)
  refine orR ?_
  refine RunU.ev [] [] ?_
  refine RunU.dn ?_
  refine kret_n [] [2, 0] [blk d 70 [.slice A n c, .slice Wa m wc, .int .i64 lf, .bool dn], row 5 1 (.slice A n c) n (nums .u8 (putl ss ((256 * b).toNat) (bs.take zs3.length)))] trivial (by kernel_rfl) rfl ⟨(putl ss ((256 * b).toNat) (bs.take zs3.length)), rfl, rfl, (by rw [putP, List.take_of_length_le (by omega), show (256 * b).toNat = 256 * b.toNat by omega]), (by omega), hr11⟩
end Go.Proofs.Ytaaplakahkgclaa.X3
