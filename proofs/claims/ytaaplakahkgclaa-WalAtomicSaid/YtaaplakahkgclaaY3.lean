/- What these functions compute: a contract for each, walked through its code. -/
import Derived.Test.YtaaplakahkgclaaSLzk
import Derived.Test.YtaaplakahkgclaaBPure
import Derived.Test.YtaaplakahkgclaaProg
import Derived.Test.YtaaplakahkgclaaX1
import Derived.Test.YtaaplakahkgclaaX2
import Derived.Test.YtaaplakahkgclaaX3
import Derived.Test.YtaaplakahkgclaaX4
import Derived.Test.YtaaplakahkgclaaX5
import Derived.Test.YtaaplakahkgclaaX6
import Derived.Test.YtaaplakahkgclaaX7
import Derived.Test.YtaaplakahkgclaaX8
import Derived.Test.YtaaplakahkgclaaX9
import Derived.Test.YtaaplakahkgclaaY1
import Derived.Test.YtaaplakahkgclaaY2
namespace Go.Proofs.Ytaaplakahkgclaa.Y3
open Go Go.Proofs.Ytaaplakahkgclaa.SL Go.Proofs.Ytaaplakahkgclaa.SL.W Go.Proofs.Ytaaplakahkgclaa.SL.D Go.Proofs.Ytaaplakahkgclaa.X1 Go.Proofs.Ytaaplakahkgclaa.X2 Go.Proofs.Ytaaplakahkgclaa.X3 Go.Proofs.Ytaaplakahkgclaa.X4 Go.Proofs.Ytaaplakahkgclaa.X5 Go.Proofs.Ytaaplakahkgclaa.X6 Go.Proofs.Ytaaplakahkgclaa.X7 Go.Proofs.Ytaaplakahkgclaa.X8 Go.Proofs.Ytaaplakahkgclaa.X9 Go.Proofs.Ytaaplakahkgclaa.Y1 Go.Proofs.Ytaaplakahkgclaa.Y2
set_option linter.unusedVariables false
set_option linter.unusedSimpArgs false
set_option maxRecDepth 100000
set_option maxHeartbeats 40000000
def U : Tab where
  und := [(3, .int .i64), (4, .bool), (5, .int .u8), (22, .slice 3), (23, .slice 5), (24, .slice 4), (25, .struct #[{ name := "Blocks", type := 22, offset := 0, embedded := false, tag := "", pkgPath := "", byteOffset := 0 }, { name := "Bytes", type := 23, offset := 1, embedded := false, tag := "", pkgPath := "", byteOffset := 24 }, { name := "Fall", type := 3, offset := 2, embedded := false, tag := "", pkgPath := "", byteOffset := 48 }, { name := "Keep", type := 24, offset := 3, embedded := false, tag := "", pkgPath := "", byteOffset := 56 }, { name := "Again", type := 3, offset := 4, embedded := false, tag := "", pkgPath := "", byteOffset := 80 }, { name := "Keep2", type := 24, offset := 5, embedded := false, tag := "", pkgPath := "", byteOffset := 88 }]), (26, .struct #[{ name := "Blocks", type := 22, offset := 0, embedded := false, tag := "", pkgPath := "", byteOffset := 0 }, { name := "Bytes", type := 23, offset := 1, embedded := false, tag := "", pkgPath := "", byteOffset := 24 }, { name := "Fall", type := 3, offset := 2, embedded := false, tag := "", pkgPath := "", byteOffset := 48 }, { name := "Keep", type := 24, offset := 3, embedded := false, tag := "", pkgPath := "", byteOffset := 56 }, { name := "Again", type := 3, offset := 4, embedded := false, tag := "", pkgPath := "", byteOffset := 80 }, { name := "Keep2", type := 24, offset := 5, embedded := false, tag := "", pkgPath := "", byteOffset := 88 }]), (28, .slice 51), (50, .struct #[{ name := "Block", type := 3, offset := 0, embedded := false, tag := "", pkgPath := "", byteOffset := 0 }, { name := "Data", type := 23, offset := 1, embedded := false, tag := "", pkgPath := "", byteOffset := 8 }]), (51, .struct #[{ name := "Block", type := 3, offset := 0, embedded := false, tag := "", pkgPath := "", byteOffset := 0 }, { name := "Data", type := 23, offset := 1, embedded := false, tag := "", pkgPath := "", byteOffset := 8 }])]
  fld := [((25, 0), (0, 22)), ((25, 1), (1, 23)), ((25, 2), (2, 3)), ((25, 3), (3, 24)), ((25, 4), (4, 3)), ((25, 5), (5, 24)), ((26, 0), (0, 22)), ((26, 1), (1, 23)), ((26, 2), (2, 3)), ((26, 3), (3, 24)), ((26, 4), (4, 3)), ((26, 5), (5, 24)), ((50, 0), (0, 3)), ((50, 1), (1, 23)), ((51, 0), (0, 3)), ((51, 1), (1, 23))]
  sz := [(3, 1), (4, 1), (5, 1), (22, 1), (23, 1), (24, 1), (25, 6), (26, 6), (28, 1), (50, 2), (51, 2)]
  ti := [(3, (1, 8, .int .i64 0)), (4, (1, 1, .bool false)), (5, (1, 1, .int .u8 0)), (22, (1, 24, .slice none 0 0)), (23, (1, 24, .slice none 0 0)), (24, (1, 24, .slice none 0 0)), (25, (6, 112, .agg #[.slice none 0 0, .slice none 0 0, .int .i64 0, .slice none 0 0, .int .i64 0, .slice none 0 0])), (26, (6, 112, .agg #[.slice none 0 0, .slice none 0 0, .int .i64 0, .slice none 0 0, .int .i64 0, .slice none 0 0])), (28, (1, 24, .slice none 0 0)), (50, (2, 32, .agg #[.int .i64 0, .slice none 0 0])), (51, (2, 32, .agg #[.int .i64 0, .slice none 0 0]))]
  bld := [(25, [(0, 1), (1, 1), (2, 1), (3, 1), (4, 1), (5, 1)]), (26, [(0, 1), (1, 1), (2, 1), (3, 1), (4, 1), (5, 1)]), (50, [(0, 1), (1, 1)]), (51, [(0, 1), (1, 1)])]

theorem hU : U.OK Try.prog where
  und := by
    intro p hp
    simp only [U, List.mem_cons, List.not_mem_nil, or_false] at hp
    rcases hp with rfl | rfl | rfl | rfl | rfl | rfl | rfl | rfl | rfl | rfl | rfl
    · exact Try.underlying3
    · exact Try.underlying4
    · exact Try.underlying5
    · exact Try.underlying22
    · exact Try.underlying23
    · exact Try.underlying24
    · exact Try.underlying25
    · exact Try.underlying26
    · exact Try.underlying28
    · exact Try.underlying50
    · exact Try.underlying51
  fld := by
    intro p hp
    simp only [U, List.mem_cons, List.not_mem_nil, or_false] at hp
    rcases hp with rfl | rfl | rfl | rfl | rfl | rfl | rfl | rfl | rfl | rfl | rfl | rfl | rfl | rfl | rfl | rfl
    · exact ⟨_, _, Try.underlying25, rfl, rfl, rfl, Try.prog.types[22]!, by kernel_rfl, by decide +kernel⟩
    · exact ⟨_, _, Try.underlying25, rfl, rfl, rfl, Try.prog.types[23]!, by kernel_rfl, by decide +kernel⟩
    · exact ⟨_, _, Try.underlying25, rfl, rfl, rfl, Try.prog.types[3]!, by kernel_rfl, by decide +kernel⟩
    · exact ⟨_, _, Try.underlying25, rfl, rfl, rfl, Try.prog.types[24]!, by kernel_rfl, by decide +kernel⟩
    · exact ⟨_, _, Try.underlying25, rfl, rfl, rfl, Try.prog.types[3]!, by kernel_rfl, by decide +kernel⟩
    · exact ⟨_, _, Try.underlying25, rfl, rfl, rfl, Try.prog.types[24]!, by kernel_rfl, by decide +kernel⟩
    · exact ⟨_, _, Try.underlying26, rfl, rfl, rfl, Try.prog.types[22]!, by kernel_rfl, by decide +kernel⟩
    · exact ⟨_, _, Try.underlying26, rfl, rfl, rfl, Try.prog.types[23]!, by kernel_rfl, by decide +kernel⟩
    · exact ⟨_, _, Try.underlying26, rfl, rfl, rfl, Try.prog.types[3]!, by kernel_rfl, by decide +kernel⟩
    · exact ⟨_, _, Try.underlying26, rfl, rfl, rfl, Try.prog.types[24]!, by kernel_rfl, by decide +kernel⟩
    · exact ⟨_, _, Try.underlying26, rfl, rfl, rfl, Try.prog.types[3]!, by kernel_rfl, by decide +kernel⟩
    · exact ⟨_, _, Try.underlying26, rfl, rfl, rfl, Try.prog.types[24]!, by kernel_rfl, by decide +kernel⟩
    · exact ⟨_, _, Try.underlying50, rfl, rfl, rfl, Try.prog.types[3]!, by kernel_rfl, by decide +kernel⟩
    · exact ⟨_, _, Try.underlying50, rfl, rfl, rfl, Try.prog.types[23]!, by kernel_rfl, by decide +kernel⟩
    · exact ⟨_, _, Try.underlying51, rfl, rfl, rfl, Try.prog.types[3]!, by kernel_rfl, by decide +kernel⟩
    · exact ⟨_, _, Try.underlying51, rfl, rfl, rfl, Try.prog.types[23]!, by kernel_rfl, by decide +kernel⟩
  sz := by
    intro p hp
    simp only [U, List.mem_cons, List.not_mem_nil, or_false] at hp
    rcases hp with rfl | rfl | rfl | rfl | rfl | rfl | rfl | rfl | rfl | rfl | rfl
    · exact ⟨Try.prog.types[3]!, by kernel_rfl, by kernel_rfl⟩
    · exact ⟨Try.prog.types[4]!, by kernel_rfl, by kernel_rfl⟩
    · exact ⟨Try.prog.types[5]!, by kernel_rfl, by kernel_rfl⟩
    · exact ⟨Try.prog.types[22]!, by kernel_rfl, by kernel_rfl⟩
    · exact ⟨Try.prog.types[23]!, by kernel_rfl, by kernel_rfl⟩
    · exact ⟨Try.prog.types[24]!, by kernel_rfl, by kernel_rfl⟩
    · exact ⟨Try.prog.types[25]!, by kernel_rfl, by kernel_rfl⟩
    · exact ⟨Try.prog.types[26]!, by kernel_rfl, by kernel_rfl⟩
    · exact ⟨Try.prog.types[28]!, by kernel_rfl, by kernel_rfl⟩
    · exact ⟨Try.prog.types[50]!, by kernel_rfl, by kernel_rfl⟩
    · exact ⟨Try.prog.types[51]!, by kernel_rfl, by kernel_rfl⟩
  ti := by
    intro p hp
    simp only [U, List.mem_cons, List.not_mem_nil, or_false] at hp
    rcases hp with rfl | rfl | rfl | rfl | rfl | rfl | rfl | rfl | rfl | rfl | rfl
    · exact ⟨Try.prog.types[3]!, by kernel_rfl, by kernel_rfl, by kernel_rfl, by kernel_rfl⟩
    · exact ⟨Try.prog.types[4]!, by kernel_rfl, by kernel_rfl, by kernel_rfl, by kernel_rfl⟩
    · exact ⟨Try.prog.types[5]!, by kernel_rfl, by kernel_rfl, by kernel_rfl, by kernel_rfl⟩
    · exact ⟨Try.prog.types[22]!, by kernel_rfl, by kernel_rfl, by kernel_rfl, by kernel_rfl⟩
    · exact ⟨Try.prog.types[23]!, by kernel_rfl, by kernel_rfl, by kernel_rfl, by kernel_rfl⟩
    · exact ⟨Try.prog.types[24]!, by kernel_rfl, by kernel_rfl, by kernel_rfl, by kernel_rfl⟩
    · exact ⟨Try.prog.types[25]!, by kernel_rfl, by kernel_rfl, by kernel_rfl, by kernel_rfl⟩
    · exact ⟨Try.prog.types[26]!, by kernel_rfl, by kernel_rfl, by kernel_rfl, by kernel_rfl⟩
    · exact ⟨Try.prog.types[28]!, by kernel_rfl, by kernel_rfl, by kernel_rfl, by kernel_rfl⟩
    · exact ⟨Try.prog.types[50]!, by kernel_rfl, by kernel_rfl, by kernel_rfl, by kernel_rfl⟩
    · exact ⟨Try.prog.types[51]!, by kernel_rfl, by kernel_rfl, by kernel_rfl, by kernel_rfl⟩
  bld := by
    intro p hp
    simp only [U, List.mem_cons, List.not_mem_nil, or_false] at hp
    rcases hp with rfl | rfl | rfl | rfl
    · exact ⟨_, Try.underlying25, by kernel_rfl⟩
    · exact ⟨_, Try.underlying26, by kernel_rfl⟩
    · exact ⟨_, Try.underlying50, by kernel_rfl⟩
    · exact ⟨_, Try.underlying51, by kernel_rfl⟩
  mixed := by kernel_rfl

theorem wl_changes_spec (Ba : Option Addr) (bc : Nat) (bl : List Int) (Ya : Option Addr) (yc : Nat) (yl : List Int) (ff : Int) (Ka : Option Addr) (kn : Nat) (kc : Nat) (gg : Int) (Qa : Option Addr) (qn : Nat) (qc : Nat) (l_bl : Nat) (l_yl : Nat) (hIbl : In .i64 bl) (hIyl : In .u8 yl) (hbl : bl.length ≤ 60) (hl_bl : bl.length = l_bl) (hl_yl : yl.length = l_yl) :
    CallsS Try.prog 12 [.agg #[.slice Ba l_bl bc, .slice Ya l_yl yc, .int .i64 ff, .slice Ka kn kc, .int .i64 gg, .slice Qa qn qc]] [vw Ba (nums .i64 bl), vw Ya (nums .u8 yl)] (fun r D => ∃ (La : Option Addr) (lm : Nat) (lc : Nat) (ls : List Ch), r = .slice La lm lc ∧ D = [row 51 2 (.slice La lm lc) lm (chV ls), chd .u8 ls] ∧ (dat ls = chgN bl yl bl.length) ∧ (ls.length = lm) ∧ (lm ≤ 60) ∧ (ChOK .u8 ls) ∧ (0 < lm → Option.isSome La = true) ∧ (lm ≤ lc) ∧ (C256 ls)) := by
  subst hl_bl
  subst hl_yl
  refine CallsS.enter hU Try.f12 _ [.tmp 2] 41 Try.func12 rfl (by decide) rfl rfl (by kernel_rfl) fun w0 W => ?_
  refine RunC.know (p := 0 < bl.length → Option.isSome Ba = true) (fun _ _ w hs => vw_some hs 0 rfl (by (simp [nums_length]; done))) (fun hA1 => ?_)
  refine RunC.know (p := 0 < yl.length → Option.isSome Ya = true) (fun _ _ w hs => vw_some hs 1 rfl (by (simp [nums_length]; done))) (fun hA2 => ?_)
  refine RunC.sr ?_
  refine RunR.st (some 1) (.box 26 (.tmp 0)) (Step.box (.agg #[.slice Ba bl.length bc, .slice Ya yl.length yc, .int .i64 ff, .slice Ka kn kc, .int .i64 gg, .slice Qa qn qc]) (by kernel_rfl) (by kernel_rfl) (fun b3 => ?_))
  refine RunR.sl hU [] 1 2 [1, 2] [(1, pt b3), (2, .slice none 0 0)] 1 ?_
  refine RunR.nx ?_
  refine RunR.sl hU [] 1 1 [1, 2, 3] [(1, pt b3), (2, .slice none 0 0), (3, .slice none 0 0)] 1 ?_
  refine RunR.nn ?_
  refine RunC.seq ?_
  refine RunC.sr ?_
  refine RunR.sl hU [] 1 1 [1, 2, 3, 4] [(1, pt b3), (2, .slice none 0 0), (3, .slice none 0 0), (4, .int .i64 0)] 1 ?_
  refine RunR.nn ?_
  refine RunC.block ?_
  refine RunC.turn ([row 51 2 (.slice none 0 0) 0 (chV ([] : List Ch)), blk b3 26 [.slice Ba bl.length bc, .slice Ya yl.length yc, .int .i64 ff, .slice Ka kn kc, .int .i64 gg, .slice Qa qn qc], vw Ba (nums .i64 bl), vw Ya (nums .u8 yl)]) (fun _ _ w hs => hs.nil_row 51 2) ?_
  refine RunC.turn ([chd .u8 ([] : List Ch), row 51 2 (.slice none 0 0) 0 (chV ([] : List Ch)), blk b3 26 [.slice Ba bl.length bc, .slice Ya yl.length yc, .int .i64 ff, .slice Ka kn kc, .int .i64 gg, .slice Qa qn qc], vw Ba (nums .i64 bl), vw Ya (nums .u8 yl)]) (fun _ _ w hs => hs.chd0 .u8) ?_
  refine RunC.env [1, 2, 3, 4] [(1, pt b3), (2, .slice none 0 0), (3, .slice none 0 0), (4, .int .i64 0)] (by kernel_rfl) ?_
  refine RunC.only [1, 0, 0, 0, 0] [row 51 2 (.slice none 0 0) 0 (chV ([] : List Ch)), chd .u8 ([] : List Ch), blk b3 26 [.slice Ba bl.length bc, .slice Ya yl.length yc, .int .i64 ff, .slice Ka kn kc, .int .i64 gg, .slice Qa qn qc], vw Ba (nums .i64 bl), vw Ya (nums .u8 yl)] (by kernel_rfl) ?_
  refine RunC.loop (σ := Nat) (fun n_ t_ D_ => ∃ (i : Int) (l3 : List Ch) (L3 : Option Addr) (m3 : Nat) (c3 : Nat), (0 ≤ i) ∧ (i ≤ (bl.length : Int)) ∧ (dat l3 = chgN bl yl i.toNat) ∧ (l3.length = m3) ∧ ((m3 : Int) = i) ∧ (ChOK .u8 l3) ∧ (0 < m3 → Option.isSome L3 = true) ∧ (m3 ≤ c3) ∧ (C256 l3) ∧ n_ = ((bl.length - i).toNat : Nat) ∧ t_ = [(1, pt b3), (2, .slice none 0 0), (3, .slice L3 m3 c3), (4, .int .i64 i)] ∧ D_ = [row 51 2 (.slice L3 m3 c3) m3 (chV l3), chd .u8 l3, blk b3 26 [.slice Ba bl.length bc, .slice Ya yl.length yc, .int .i64 ff, .slice Ka kn kc, .int .i64 gg, .slice Qa qn qc], vw Ba (nums .i64 bl), vw Ya (nums .u8 yl)]) id _ ⟨0, ([] : List Ch), none, 0, 0, (by omega), (by omega), (by rfl), (by rfl), (by omega), (by exact ChOK.nil _), (by intro h; omega), (by omega), (by exact C256.nil), rfl, rfl, rfl⟩ ?_
  rintro n_ _ _ ⟨i, l3, L3, m3, c3, hi, hib, hl3, hl3l, hm3, hok3, hL3, hmc3, h256, rfl, rfl, rfl⟩
  refine RunC.seq ?_
  refine RunC.sr ?_
  refine RunR.sl hU [] 2 2 [1, 2, 3, 4, 6, 7] [(1, pt b3), (2, .slice none 0 0), (3, .slice L3 m3 c3), (4, .int .i64 i), (6, .int .i64 i), (7, pt b3)] 2 ?_
  refine RunR.st (some 8) (.load 22 (.tmp 7)) (Step.load_blk hU 2 b3 (0) 26 [.slice Ba bl.length bc, .slice Ya yl.length yc, .int .i64 ff, .slice Ka kn kc, .int .i64 gg, .slice Qa qn qc] (.slice Ba bl.length bc) (by kernel_rfl) (by kernel_rfl) (by kernel_rfl) (by kernel_rfl) ?_)
  refine RunR.sl hU [] 2 5 [1, 2, 3, 4, 10] [(1, pt b3), (2, .slice none 0 0), (3, .slice L3 m3 c3), (4, .int .i64 i), (10, .bool (decide (i < ((bl.length : Nat) : Int))))] 2 ?_
  refine RunR.nn ?_
  refine RunC.condp (i < ((bl.length : Nat) : Int)) (by kernel_rfl) (fun h4 => ?_) (fun h4 => ?_)
  · skip
    refine RunC.ks ?_
    refine RunC.seq ?_
    refine RunC.block ?_
    refine RunC.sr ?_
    refine RunR.sil hU [1] 3 3 [1, 2, 3, 4, 5] [(1, pt b3), (2, .slice none 0 0), (3, .slice L3 m3 c3), (4, .int .i64 i), (5, .int .u8 i)] ((True) ∧ (0 ≤ i ∧ i < 256) ∧ (True) ∧ True) rfl (by kernel_rfl) ⟨trivial, (by omega), trivial, trivial⟩ ?_
    refine RunR.nn ?_
    refine RunC.seq ?_
    refine RunC.sr ?_
    refine RunR.sl hU [] 2 2 [1, 2, 3, 4, 5, 15, 16] [(1, pt b3), (2, .slice none 0 0), (3, .slice L3 m3 c3), (4, .int .i64 i), (5, .int .u8 i), (15, .int .i64 i), (16, .pointer (some ⟨b3, 1, none⟩))] 2 ?_
    refine RunR.st (some 17) (.load 23 (.tmp 16)) (Step.load_blk hU 2 b3 (1) 26 [.slice Ba bl.length bc, .slice Ya yl.length yc, .int .i64 ff, .slice Ka kn kc, .int .i64 gg, .slice Qa qn qc] (.slice Ya yl.length yc) (by kernel_rfl) (by kernel_rfl) (by kernel_rfl) (by kernel_rfl) ?_)
    refine RunR.sl hU [] 2 5 [1, 2, 3, 4, 5, 19] [(1, pt b3), (2, .slice none 0 0), (3, .slice L3 m3 c3), (4, .int .i64 i), (5, .int .u8 i), (19, .bool (decide (i < ((yl.length : Nat) : Int))))] 2 ?_
    refine RunR.nn ?_
    refine RunC.condp (i < ((yl.length : Nat) : Int)) (by kernel_rfl) (fun h5 => ?_) (fun h5 => ?_)
    · skip
      refine RunC.region ?_
      refine RunR.sl hU [] 1 1 [1, 2, 3, 4, 5, 20] [(1, pt b3), (2, .slice none 0 0), (3, .slice L3 m3 c3), (4, .int .i64 i), (5, .int .u8 i), (20, .pointer (some ⟨b3, 1, none⟩))] 1 ?_
      refine RunR.st (some 21) (.load 23 (.tmp 20)) (Step.load_blk hU 2 b3 (1) 26 [.slice Ba bl.length bc, .slice Ya yl.length yc, .int .i64 ff, .slice Ka kn kc, .int .i64 gg, .slice Qa qn qc] (.slice Ya yl.length yc) (by kernel_rfl) (by kernel_rfl) (by kernel_rfl) (by kernel_rfl) ?_)
      refine RunR.sil hU [] 2 4 [1, 2, 3, 4, 5, 23] [(1, pt b3), (2, .slice none 0 0), (3, .slice L3 m3 c3), (4, .int .i64 i), (5, .int .u8 i), (23, .pointer (elemAt Ya i 1))] ((True) ∧ ((0 ≤ i ∧ i < ((yl.length : Nat) : Int)) ∧ Option.isSome Ya = true) ∧ True) rfl (by kernel_rfl) ⟨trivial, ⟨by omega, hA2 (by omega)⟩, trivial⟩ ?_
      refine RunR.st (some 24) (.load 5 (.tmp 23)) (Step.load_num hU 4 (vw Ya (nums .u8 yl)) Ya i .u8 yl rfl (by kernel_rfl) (by kernel_rfl) (tells_vw _ _) (by kernel_rfl) (by omega) ?_)
      have hb6 : 0 ≤ yl.getD ((i).toNat) 0 ∧ yl.getD ((i).toNat) 0 < 256 := hIyl.at_ _
      refine RunR.sl hU [] 1 6 [1, 2, 3, 4, 5] [(1, pt b3), (2, .slice none 0 0), (3, .slice L3 m3 c3), (4, .int .i64 i), (5, .int .u8 (yl.getD (i).toNat 0))] 1 ?_
      refine RunR.nn ?_
      refine RunC.regionU hU 16 [blk b3 26 [.slice Ba bl.length bc, .slice Ya yl.length yc, .int .i64 ff, .slice Ka kn kc, .int .i64 gg, .slice Qa qn qc], vw Ba (nums .i64 bl)] [2, 3] [14, 15] (bm 16 0) (by kernel_rfl) (by kernel_rfl) (by kernel_rfl) ?_
      refine RunU.sl hU 0 (bm 16 1) 25 (.slice L3 m3 c3) ?_
      refine RunU.sl hU 1 (bm 16 3) 26 (pt b3) ?_
      refine RunU.rd 2 (bm 16 7) 27 (.load 22 (.tmp 26)) (.slice Ba bl.length bc) [2, 3] (Reads.load_blk hU 0 b3 (0) 26 [.slice Ba bl.length bc, .slice Ya yl.length yc, .int .i64 ff, .slice Ka kn kc, .int .i64 gg, .slice Qa qn qc] (.slice Ba bl.length bc) (by kernel_rfl) (by kernel_rfl) (by kernel_rfl)) ?_
      refine RunU.sl hU 3 (bm 16 15) 28 (.int .i64 i) ?_
      refine RunU.sil hU false 4 (bm 16 31) 29 (.pointer (elemAt Ba i 1)) ((0 ≤ i ∧ i < ((bl.length : Nat) : Int)) ∧ Option.isSome Ba = true) (by kernel_rfl) ⟨by omega, hA1 (by omega)⟩ (by kernel_rfl) (by kernel_rfl) (fun _ _ _ h => h) ?_
      refine RunU.rd 5 (bm 16 63) 30 (.load 3 (.tmp 29)) (.int .i64 (bl.getD (i).toNat 0)) [2, 3] (Reads.load_num hU 1 (vw Ba (nums .i64 bl)) Ba i .i64 bl rfl (by kernel_rfl) (by kernel_rfl) (tells_vw _ _) (by omega)) ?_
      have hb7 : -9223372036854775808 ≤ bl.getD ((i).toNat) 0 ∧ bl.getD ((i).toNat) 0 < 9223372036854775808 := hIbl.at_ _
      refine RunU.sl hU 6 (bm 16 127) 31 (.int .u8 (yl.getD (i).toNat 0)) ?_
      refine RunU.sl hU 7 (bm 16 255) 32 (.int .i64 i) ?_
      refine RunU.sil hU true 8 (bm 16 511) 33 (.int .u8 i) (0 ≤ i ∧ i < 256) (by kernel_rfl) (by omega) (by kernel_rfl) (by kernel_rfl) (fun _ _ _ h => h) ?_
      refine RunU.sl hU 9 (bm 16 1023) 34 (.int .u8 (yl.getD (i).toNat 0)) ?_
      refine RunU.on (some 35) (.buildSlice 23 3 #[(0, .tmp 31), (1, .tmp 33), (2, .tmp 34)]) 10 (bm 16 2047) [3, 4] (Step.lit_nums hU 5 1 .u8 (.int .u8 0) ([yl.getD (i).toNat 0, i, yl.getD (i).toNat 0] : List Int) rfl rfl (by kernel_rfl) rfl rfl (by kernel_rfl) (fun b8 => ?_))
      have hl9 : (([yl.getD (i).toNat 0, i, yl.getD (i).toNat 0] : List Int)).length = 3 := rfl
      refine orL ?_
      refine RunU.on (some 36) (.call { callee := .value (.func 39), args := #[.tmp 35], argTypes := #[23] }) 11 (bm 16 4095) [4, 5] (Step.cl 39 [.slice (some ⟨b8, 0, none⟩) 3 3] [] [vw (some ⟨b8, 0, none⟩) (nums .u8 ([yl.getD (i).toNat 0, i, yl.getD (i).toNat 0] : List Int))] [row 5 1 (.slice (some ⟨b8, 0, none⟩) 3 3) 3 (nums .u8 ([yl.getD (i).toNat 0, i, yl.getD (i).toNat 0] : List Int)), row 51 2 (.slice L3 m3 c3) m3 (chV l3), chd .u8 l3, blk b3 26 [.slice Ba bl.length bc, .slice Ya yl.length yc, .int .i64 ff, .slice Ka kn kc, .int .i64 gg, .slice Qa qn qc], vw Ba (nums .i64 bl), vw Ya (nums .u8 yl)] (d_Full_spec (some ⟨b8, 0, none⟩) 3 ([yl.getD (i).toNat 0, i, yl.getD (i).toNat 0] : List Int) 3 (by (repeat first | assumption | (simp only [fits]; omega) | with_reducible first | exact In.nil _ | apply In.cons)) (by omega) (by omega) (by rfl)) [] ((Lend.nil _).tells 0 (row 5 1 (.slice (some ⟨b8, 0, none⟩) 3 3) 3 (nums .u8 ([yl.getD (i).toNat 0, i, yl.getD (i).toNat 0] : List Int))) (some ⟨b8, 0, none⟩) (nums .u8 ([yl.getD (i).toNat 0, i, yl.getD (i).toNat 0] : List Int)) (by kernel_rfl) (tells_row _ _ _ _ _ _)) ?_)
      rintro _ _ ⟨A910, c911, zs12, rfl, rfl, hp13, hp14, hp15, hp16, hp17⟩
      refine orL ?_
      refine RunU.sl hU 12 (bm 16 8191) 37 (.agg #[.int .i64 (bl.getD (i).toNat 0), .slice A910 256 c911]) ?_
      refine RunU.ev [1, 2, 3, 4, 5, 25, 26, 27, 28, 29, 30, 31, 32, 33, 34, 35, 36, 37] [(1, pt b3), (2, .slice none 0 0), (3, .slice L3 m3 c3), (4, .int .i64 i), (5, .int .u8 (yl.getD (i).toNat 0)), (25, .slice L3 m3 c3), (26, pt b3), (27, .slice Ba bl.length bc), (28, .int .i64 i), (29, .pointer (elemAt Ba i 1)), (30, .int .i64 (bl.getD (i).toNat 0)), (31, .int .u8 (yl.getD (i).toNat 0)), (32, .int .i64 i), (33, .int .u8 i), (34, .int .u8 (yl.getD (i).toNat 0)), (35, .slice (some ⟨b8, 0, none⟩) 3 3), (36, .slice A910 256 c911), (37, .agg #[.int .i64 (bl.getD (i).toNat 0), .slice A910 256 c911])] ?_
      have hl19 : (zs12).length = 256 := by assumption
      refine RunU.enveq [(1, pt b3), (2, .slice none 0 0), (3, .slice L3 m3 c3), (4, .int .i64 i), (5, .int .u8 (yl.getD (i).toNat 0)), (25, .slice L3 m3 c3), (26, pt b3), (27, .slice Ba bl.length bc), (28, .int .i64 i), (29, .pointer (elemAt Ba i 1)), (30, .int .i64 (bl.getD (i).toNat 0)), (31, .int .u8 (yl.getD (i).toNat 0)), (32, .int .i64 i), (33, .int .u8 i), (34, .int .u8 (yl.getD (i).toNat 0)), (35, .slice (some ⟨b8, 0, none⟩) 3 3), (36, .slice A910 256 c911), (37, .agg #[.int .i64 (bl.getD (i).toNat 0), .slice A910 zs12.length c911])] (by rw [hl19]) ?_
      refine RunU.on (some 38) (.buildSlice 28 1 #[(0, .tmp 37)]) 13 (bm 16 16383) [5, 6] (Step.lit_pair hU 51 32 (.agg #[.int .i64 0, .slice none 0 0]) (.int .i64 (bl.getD (i).toNat 0)) (.slice A910 zs12.length c911) (by kernel_rfl) (by kernel_rfl) (by kernel_rfl) rfl rfl (by kernel_rfl) (fun b18 => ?_))
      refine orL ?_
      refine RunU.turn ([row 51 2 (.slice (some ⟨b18, 0, none⟩) 1 1) 1 (chV ([(bl.getD (i).toNat 0, A910, c911, zs12)] : List Ch)), row 5 1 (.slice A910 256 c911) 256 (nums .u8 zs12), row 5 1 (.slice (some ⟨b8, 0, none⟩) 3 3) 3 (nums .u8 ([yl.getD (i).toNat 0, i, yl.getD (i).toNat 0] : List Int)), row 51 2 (.slice L3 m3 c3) m3 (chV l3), chd .u8 l3, blk b3 26 [.slice Ba bl.length bc, .slice Ya yl.length yc, .int .i64 ff, .slice Ka kn kc, .int .i64 gg, .slice Qa qn qc], vw Ba (nums .i64 bl), vw Ya (nums .u8 yl)]) (fun _ _ w hs => hs) ?_
      refine RunU.on (some 39) (.call { callee := .builtin .append, args := #[.tmp 25, .tmp 38], argTypes := #[28, 28] }) 14 (bm 16 32767) [] (Step.append_ch hU 51 32 (.agg #[.int .i64 0, .slice none 0 0]) 3 0 L3 m3 c3 l3 (some ⟨b18, 0, none⟩) 1 1 (row 51 2 (.slice (some ⟨b18, 0, none⟩) 1 1) 1 (chV ([(bl.getD (i).toNat 0, A910, c911, zs12)] : List Ch))) ([(bl.getD (i).toNat 0, A910, c911, zs12)] : List Ch) (by kernel_rfl) (by kernel_rfl) (by kernel_rfl) (by kernel_rfl) (by kernel_rfl) (by kernel_rfl) (by kernel_rfl) (tells_row _ _ _ _ _ _) rfl (by omega) (by omega) (by kernel_rfl) (fun Aq20 cq21 hc22 hA23 => ?_))
      refine orR ?_
      refine RunU.turn ([chd .u8 (l3 ++ ([(bl.getD (i).toNat 0, A910, c911, zs12)] : List Ch)), row 51 2 (.slice Aq20 (m3 + 1) cq21) (m3 + 1) (chV (l3 ++ ([(bl.getD (i).toNat 0, A910, c911, zs12)] : List Ch))), row 51 2 (.slice (some ⟨b18, 0, none⟩) 1 1) 1 (chV ([(bl.getD (i).toNat 0, A910, c911, zs12)] : List Ch)), row 5 1 (.slice (some ⟨b8, 0, none⟩) 3 3) 3 (nums .u8 ([yl.getD (i).toNat 0, i, yl.getD (i).toNat 0] : List Int)), blk b3 26 [.slice Ba bl.length bc, .slice Ya yl.length yc, .int .i64 ff, .slice Ka kn kc, .int .i64 gg, .slice Qa qn qc], vw Ba (nums .i64 bl), vw Ya (nums .u8 yl)]) (fun _ _ w hs => SAT.chdPush (bl.getD (i).toNat 0) A910 c911 zs12 rfl (tells_row _ _ _ _ _ _) (hs.pulls2 [2, 3] ([row 5 1 (.slice A910 256 c911) 256 (nums .u8 zs12), chd .u8 l3, row 51 2 (.slice Aq20 (m3 + 1) cq21) (m3 + 1) (chV (l3 ++ ([(bl.getD (i).toNat 0, A910, c911, zs12)] : List Ch))), row 51 2 (.slice (some ⟨b18, 0, none⟩) 1 1) 1 (chV ([(bl.getD (i).toNat 0, A910, c911, zs12)] : List Ch)), row 5 1 (.slice (some ⟨b8, 0, none⟩) 3 3) 3 (nums .u8 ([yl.getD (i).toNat 0, i, yl.getD (i).toNat 0] : List Int)), blk b3 26 [.slice Ba bl.length bc, .slice Ya yl.length yc, .int .i64 ff, .slice Ka kn kc, .int .i64 gg, .slice Qa qn qc], vw Ba (nums .i64 bl), vw Ya (nums .u8 yl)]) (by kernel_rfl))) ?_
      refine RunU.sl hU 15 (bm 16 65535) 3 (.slice Aq20 (m3 + 1) cq21) ?_
      refine RunU.ev [1, 2, 3, 4] [(1, pt b3), (2, .slice none 0 0), (3, .slice Aq20 (m3 + 1) cq21), (4, .int .i64 i)] ?_
      refine RunU.dn ?_
      refine kblock_n ?_
      refine kseq_n ?_
      refine RunC.region ?_
      refine RunR.sil hU [1] 3 3 [1, 2, 3, 4] [(1, pt b3), (2, .slice none 0 0), (3, .slice Aq20 (m3 + 1) cq21), (4, .int .i64 (i + 1))] ((True) ∧ (-9223372036854775808 ≤ (i + 1) ∧ (i + 1) < 9223372036854775808) ∧ (True) ∧ True) rfl (by kernel_rfl) ⟨trivial, (by omega), trivial, trivial⟩ ?_
      refine RunR.dn ?_
      refine kloop_n _ [1, 2, 3, 4] [1, 0, 2, 2, 2] [(1, pt b3), (2, .slice none 0 0), (3, .slice Aq20 (m3 + 1) cq21), (4, .int .i64 (i + 1))] [row 51 2 (.slice Aq20 (m3 + 1) cq21) (m3 + 1) (chV (l3 ++ ([(bl.getD (i).toNat 0, A910, c911, zs12)] : List Ch))), chd .u8 (l3 ++ ([(bl.getD (i).toNat 0, A910, c911, zs12)] : List Ch)), blk b3 26 [.slice Ba bl.length bc, .slice Ya yl.length yc, .int .i64 ff, .slice Ka kn kc, .int .i64 gg, .slice Qa qn qc], vw Ba (nums .i64 bl), vw Ya (nums .u8 yl)] (by kernel_rfl) (by kernel_rfl) ?_ ⟨(i + 1), (l3 ++ ([(bl.getD (i).toNat 0, A910, c911, zs12)] : List Ch)), Aq20, (m3 + 1), cq21, (by omega), (by assumption), (by exact chg_step hl3 hi (by assumption) (by (rw [xOf, if_pos (by omega)]; done))), (by rw [List.length_append, hl3l]; rfl), (by omega), (by exact hok3.append (ChOK.one (hIbl.atI _) (by assumption) (by omega) (by omega))), (by assumption), (by assumption), (by exact h256.app (by omega)), rfl, (by rfl), (by rfl)⟩
      show ((bl.length - (i + 1)).toNat : Nat) < ((bl.length - i).toNat : Nat)
      omega
    · skip
      refine RunC.ks ?_
      refine RunC.regionU hU 16 [blk b3 26 [.slice Ba bl.length bc, .slice Ya yl.length yc, .int .i64 ff, .slice Ka kn kc, .int .i64 gg, .slice Qa qn qc], vw Ba (nums .i64 bl)] [2, 3] [14, 15] (bm 16 0) (by kernel_rfl) (by kernel_rfl) (by kernel_rfl) ?_
      refine RunU.sl hU 0 (bm 16 1) 25 (.slice L3 m3 c3) ?_
      refine RunU.sl hU 1 (bm 16 3) 26 (pt b3) ?_
      refine RunU.rd 2 (bm 16 7) 27 (.load 22 (.tmp 26)) (.slice Ba bl.length bc) [2, 3] (Reads.load_blk hU 0 b3 (0) 26 [.slice Ba bl.length bc, .slice Ya yl.length yc, .int .i64 ff, .slice Ka kn kc, .int .i64 gg, .slice Qa qn qc] (.slice Ba bl.length bc) (by kernel_rfl) (by kernel_rfl) (by kernel_rfl)) ?_
      refine RunU.sl hU 3 (bm 16 15) 28 (.int .i64 i) ?_
      refine RunU.sil hU false 4 (bm 16 31) 29 (.pointer (elemAt Ba i 1)) ((0 ≤ i ∧ i < ((bl.length : Nat) : Int)) ∧ Option.isSome Ba = true) (by kernel_rfl) ⟨by omega, hA1 (by omega)⟩ (by kernel_rfl) (by kernel_rfl) (fun _ _ _ h => h) ?_
      refine RunU.rd 5 (bm 16 63) 30 (.load 3 (.tmp 29)) (.int .i64 (bl.getD (i).toNat 0)) [2, 3] (Reads.load_num hU 1 (vw Ba (nums .i64 bl)) Ba i .i64 bl rfl (by kernel_rfl) (by kernel_rfl) (tells_vw _ _) (by omega)) ?_
      have hb24 : -9223372036854775808 ≤ bl.getD ((i).toNat) 0 ∧ bl.getD ((i).toNat) 0 < 9223372036854775808 := hIbl.at_ _
      refine RunU.sl hU 6 (bm 16 127) 31 (.int .u8 i) ?_
      refine RunU.sl hU 7 (bm 16 255) 32 (.int .i64 i) ?_
      refine RunU.sil hU true 8 (bm 16 511) 33 (.int .u8 i) (0 ≤ i ∧ i < 256) (by kernel_rfl) (by omega) (by kernel_rfl) (by kernel_rfl) (fun _ _ _ h => h) ?_
      refine RunU.sl hU 9 (bm 16 1023) 34 (.int .u8 i) ?_
      refine RunU.on (some 35) (.buildSlice 23 3 #[(0, .tmp 31), (1, .tmp 33), (2, .tmp 34)]) 10 (bm 16 2047) [3, 4] (Step.lit_nums hU 5 1 .u8 (.int .u8 0) ([i, i, i] : List Int) rfl rfl (by kernel_rfl) rfl rfl (by kernel_rfl) (fun b25 => ?_))
      have hl26 : (([i, i, i] : List Int)).length = 3 := rfl
      refine orL ?_
      refine RunU.on (some 36) (.call { callee := .value (.func 39), args := #[.tmp 35], argTypes := #[23] }) 11 (bm 16 4095) [4, 5] (Step.cl 39 [.slice (some ⟨b25, 0, none⟩) 3 3] [] [vw (some ⟨b25, 0, none⟩) (nums .u8 ([i, i, i] : List Int))] [row 5 1 (.slice (some ⟨b25, 0, none⟩) 3 3) 3 (nums .u8 ([i, i, i] : List Int)), row 51 2 (.slice L3 m3 c3) m3 (chV l3), chd .u8 l3, blk b3 26 [.slice Ba bl.length bc, .slice Ya yl.length yc, .int .i64 ff, .slice Ka kn kc, .int .i64 gg, .slice Qa qn qc], vw Ba (nums .i64 bl), vw Ya (nums .u8 yl)] (d_Full_spec (some ⟨b25, 0, none⟩) 3 ([i, i, i] : List Int) 3 (by (repeat first | (simp only [fits]; omega) | with_reducible first | exact In.nil _ | apply In.cons)) (by omega) (by omega) (by rfl)) [] ((Lend.nil _).tells 0 (row 5 1 (.slice (some ⟨b25, 0, none⟩) 3 3) 3 (nums .u8 ([i, i, i] : List Int))) (some ⟨b25, 0, none⟩) (nums .u8 ([i, i, i] : List Int)) (by kernel_rfl) (tells_row _ _ _ _ _ _)) ?_)
      rintro _ _ ⟨A927, c928, zs29, rfl, rfl, hp30, hp31, hp32, hp33, hp34⟩
      refine orL ?_
      refine RunU.sl hU 12 (bm 16 8191) 37 (.agg #[.int .i64 (bl.getD (i).toNat 0), .slice A927 256 c928]) ?_
      refine RunU.ev [1, 2, 3, 4, 5, 19, 25, 26, 27, 28, 29, 30, 31, 32, 33, 34, 35, 36, 37] [(1, pt b3), (2, .slice none 0 0), (3, .slice L3 m3 c3), (4, .int .i64 i), (5, .int .u8 i), (19, .bool (decide (i < ((yl.length : Nat) : Int)))), (25, .slice L3 m3 c3), (26, pt b3), (27, .slice Ba bl.length bc), (28, .int .i64 i), (29, .pointer (elemAt Ba i 1)), (30, .int .i64 (bl.getD (i).toNat 0)), (31, .int .u8 i), (32, .int .i64 i), (33, .int .u8 i), (34, .int .u8 i), (35, .slice (some ⟨b25, 0, none⟩) 3 3), (36, .slice A927 256 c928), (37, .agg #[.int .i64 (bl.getD (i).toNat 0), .slice A927 256 c928])] ?_
      have hl36 : (zs29).length = 256 := by assumption
      refine RunU.enveq [(1, pt b3), (2, .slice none 0 0), (3, .slice L3 m3 c3), (4, .int .i64 i), (5, .int .u8 i), (19, .bool (decide (i < ((yl.length : Nat) : Int)))), (25, .slice L3 m3 c3), (26, pt b3), (27, .slice Ba bl.length bc), (28, .int .i64 i), (29, .pointer (elemAt Ba i 1)), (30, .int .i64 (bl.getD (i).toNat 0)), (31, .int .u8 i), (32, .int .i64 i), (33, .int .u8 i), (34, .int .u8 i), (35, .slice (some ⟨b25, 0, none⟩) 3 3), (36, .slice A927 256 c928), (37, .agg #[.int .i64 (bl.getD (i).toNat 0), .slice A927 zs29.length c928])] (by rw [hl36]) ?_
      refine RunU.on (some 38) (.buildSlice 28 1 #[(0, .tmp 37)]) 13 (bm 16 16383) [5, 6] (Step.lit_pair hU 51 32 (.agg #[.int .i64 0, .slice none 0 0]) (.int .i64 (bl.getD (i).toNat 0)) (.slice A927 zs29.length c928) (by kernel_rfl) (by kernel_rfl) (by kernel_rfl) rfl rfl (by kernel_rfl) (fun b35 => ?_))
      refine orL ?_
      refine RunU.turn ([row 51 2 (.slice (some ⟨b35, 0, none⟩) 1 1) 1 (chV ([(bl.getD (i).toNat 0, A927, c928, zs29)] : List Ch)), row 5 1 (.slice A927 256 c928) 256 (nums .u8 zs29), row 5 1 (.slice (some ⟨b25, 0, none⟩) 3 3) 3 (nums .u8 ([i, i, i] : List Int)), row 51 2 (.slice L3 m3 c3) m3 (chV l3), chd .u8 l3, blk b3 26 [.slice Ba bl.length bc, .slice Ya yl.length yc, .int .i64 ff, .slice Ka kn kc, .int .i64 gg, .slice Qa qn qc], vw Ba (nums .i64 bl), vw Ya (nums .u8 yl)]) (fun _ _ w hs => hs) ?_
      refine RunU.on (some 39) (.call { callee := .builtin .append, args := #[.tmp 25, .tmp 38], argTypes := #[28, 28] }) 14 (bm 16 32767) [] (Step.append_ch hU 51 32 (.agg #[.int .i64 0, .slice none 0 0]) 3 0 L3 m3 c3 l3 (some ⟨b35, 0, none⟩) 1 1 (row 51 2 (.slice (some ⟨b35, 0, none⟩) 1 1) 1 (chV ([(bl.getD (i).toNat 0, A927, c928, zs29)] : List Ch))) ([(bl.getD (i).toNat 0, A927, c928, zs29)] : List Ch) (by kernel_rfl) (by kernel_rfl) (by kernel_rfl) (by kernel_rfl) (by kernel_rfl) (by kernel_rfl) (by kernel_rfl) (tells_row _ _ _ _ _ _) rfl (by omega) (by omega) (by kernel_rfl) (fun Aq37 cq38 hc39 hA40 => ?_))
      refine orR ?_
      refine RunU.turn ([chd .u8 (l3 ++ ([(bl.getD (i).toNat 0, A927, c928, zs29)] : List Ch)), row 51 2 (.slice Aq37 (m3 + 1) cq38) (m3 + 1) (chV (l3 ++ ([(bl.getD (i).toNat 0, A927, c928, zs29)] : List Ch))), row 51 2 (.slice (some ⟨b35, 0, none⟩) 1 1) 1 (chV ([(bl.getD (i).toNat 0, A927, c928, zs29)] : List Ch)), row 5 1 (.slice (some ⟨b25, 0, none⟩) 3 3) 3 (nums .u8 ([i, i, i] : List Int)), blk b3 26 [.slice Ba bl.length bc, .slice Ya yl.length yc, .int .i64 ff, .slice Ka kn kc, .int .i64 gg, .slice Qa qn qc], vw Ba (nums .i64 bl), vw Ya (nums .u8 yl)]) (fun _ _ w hs => SAT.chdPush (bl.getD (i).toNat 0) A927 c928 zs29 rfl (tells_row _ _ _ _ _ _) (hs.pulls2 [2, 3] ([row 5 1 (.slice A927 256 c928) 256 (nums .u8 zs29), chd .u8 l3, row 51 2 (.slice Aq37 (m3 + 1) cq38) (m3 + 1) (chV (l3 ++ ([(bl.getD (i).toNat 0, A927, c928, zs29)] : List Ch))), row 51 2 (.slice (some ⟨b35, 0, none⟩) 1 1) 1 (chV ([(bl.getD (i).toNat 0, A927, c928, zs29)] : List Ch)), row 5 1 (.slice (some ⟨b25, 0, none⟩) 3 3) 3 (nums .u8 ([i, i, i] : List Int)), blk b3 26 [.slice Ba bl.length bc, .slice Ya yl.length yc, .int .i64 ff, .slice Ka kn kc, .int .i64 gg, .slice Qa qn qc], vw Ba (nums .i64 bl), vw Ya (nums .u8 yl)]) (by kernel_rfl))) ?_
      refine RunU.sl hU 15 (bm 16 65535) 3 (.slice Aq37 (m3 + 1) cq38) ?_
      refine RunU.ev [1, 2, 3, 4] [(1, pt b3), (2, .slice none 0 0), (3, .slice Aq37 (m3 + 1) cq38), (4, .int .i64 i)] ?_
      refine RunU.dn ?_
      refine kblock_n ?_
      refine kseq_n ?_
      refine RunC.region ?_
      refine RunR.sil hU [1] 3 3 [1, 2, 3, 4] [(1, pt b3), (2, .slice none 0 0), (3, .slice Aq37 (m3 + 1) cq38), (4, .int .i64 (i + 1))] ((True) ∧ (-9223372036854775808 ≤ (i + 1) ∧ (i + 1) < 9223372036854775808) ∧ (True) ∧ True) rfl (by kernel_rfl) ⟨trivial, (by omega), trivial, trivial⟩ ?_
      refine RunR.dn ?_
      refine kloop_n _ [1, 2, 3, 4] [1, 0, 2, 2, 2] [(1, pt b3), (2, .slice none 0 0), (3, .slice Aq37 (m3 + 1) cq38), (4, .int .i64 (i + 1))] [row 51 2 (.slice Aq37 (m3 + 1) cq38) (m3 + 1) (chV (l3 ++ ([(bl.getD (i).toNat 0, A927, c928, zs29)] : List Ch))), chd .u8 (l3 ++ ([(bl.getD (i).toNat 0, A927, c928, zs29)] : List Ch)), blk b3 26 [.slice Ba bl.length bc, .slice Ya yl.length yc, .int .i64 ff, .slice Ka kn kc, .int .i64 gg, .slice Qa qn qc], vw Ba (nums .i64 bl), vw Ya (nums .u8 yl)] (by kernel_rfl) (by kernel_rfl) ?_ ⟨(i + 1), (l3 ++ ([(bl.getD (i).toNat 0, A927, c928, zs29)] : List Ch)), Aq37, (m3 + 1), cq38, (by omega), (by assumption), (by exact chg_step hl3 hi (by assumption) (by (rw [xOf, if_neg (by omega)]; omega))), (by rw [List.length_append, hl3l]; rfl), (by omega), (by exact hok3.append (ChOK.one (hIbl.atI _) (by assumption) (by omega) (by omega))), (by assumption), (by assumption), (by exact h256.app (by omega)), rfl, (by rfl), (by rfl)⟩
      show ((bl.length - (i + 1)).toNat : Nat) < ((bl.length - i).toNat : Nat)
      omega
  · skip
    refine RunC.exit ?_
    refine kseq_e ?_
    refine kloop_e ?_
    refine kblock_e ?_
    refine kseq_n ?_
    refine RunC.sr ?_
    refine RunR.sl hU [] 2 2 [2] [(2, .slice L3 m3 c3)] 2 ?_
    refine RunR.nn ?_
    refine RunC.ret ?_
    refine kret_r [.slice L3 m3 c3] [0, 0] [row 51 2 (.slice L3 m3 c3) m3 (chV l3), chd .u8 l3] ⟨rfl, trivial⟩ (by kernel_rfl) rfl ⟨L3, m3, c3, l3, rfl, rfl, (by rw [hl3, show i.toNat = bl.length by omega]), (by assumption), (by omega), (by assumption), (by assumption), (by assumption), (by assumption)⟩

theorem wr_May_spec (k : Int) (La : Option Addr) (lm : Nat) (lc : Nat) (ls : List Ch) (hk : fits .i64 k) (hll : ls.length = lm) (hlb : lm ≤ 1000000) (hlok : ChOK .u8 ls) :
    CallsS Try.prog 15 [.int .i64 k, .slice La lm lc] [vw La (chV ls)] (fun r D => r = .bool (decide (lm ≤ 40 ∧ MOK k ls)) ∧ D = []) := by
  refine CallsS.enter hU Try.f15 _ [.tmp 4] 43 Try.func15 rfl (by decide) rfl rfl (by kernel_rfl) fun w0 W => ?_
  refine RunC.know (p := 0 < ls.length * 2 → Option.isSome La = true) (fun _ _ w hs => vw_some hs 0 rfl (by exact chV_len _)) (fun hA1 => ?_)
  refine RunC.sr ?_
  refine RunR.sl hU [] 1 1 [0, 1, 4] [(0, .int .i64 k), (1, .slice La lm lc), (4, .bool false)] 1 ?_
  refine RunR.nn ?_
  refine RunC.seq ?_
  refine RunC.sr ?_
  refine RunR.sl hU [] 1 1 [0, 1, 4, 5] [(0, .int .i64 k), (1, .slice La lm lc), (4, .bool false), (5, .int .i64 0)] 1 ?_
  refine RunR.nn ?_
  refine RunC.block ?_
  refine RunC.env [0, 1, 5] [(0, .int .i64 k), (1, .slice La lm lc), (5, .int .i64 0)] (by kernel_rfl) ?_
  refine RunC.only [0] [vw La (chV ls)] (by kernel_rfl) ?_
  refine RunC.loop (σ := Nat) (fun n_ t_ D_ => ∃ (i : Int), (0 ≤ i) ∧ (i ≤ 41) ∧ (i ≤ (lm : Int)) ∧ (MOK k (ls.take i.toNat)) ∧ n_ = ((41 - i).toNat : Nat) ∧ t_ = [(0, .int .i64 k), (1, .slice La lm lc), (5, .int .i64 i)] ∧ D_ = [vw La (chV ls)]) id _ ⟨0, (by omega), (by omega), (by omega), (by exact MOK.nil _), rfl, rfl, rfl⟩ ?_
  rintro n_ _ _ ⟨i, hi, hi4, him, hM, rfl, rfl, rfl⟩
  refine RunC.seq ?_
  refine RunC.sr ?_
  refine RunR.sl hU [] 5 5 [0, 1, 5, 10] [(0, .int .i64 k), (1, .slice La lm lc), (5, .int .i64 i), (10, .bool (decide (i < ((lm : Nat) : Int))))] 5 ?_
  refine RunR.ev [0, 1, 5, 10] [(0, .int .i64 k), (1, .slice La lm lc), (5, .int .i64 i), (10, .bool (decide (i < ((lm : Nat) : Int))))] ?_
  by_cases h2 : i < ((lm : Nat) : Int)
  · skip
    refine RunR.enveq [(0, .int .i64 k), (1, .slice La lm lc), (5, .int .i64 i), (10, .bool true)] (by rw [decide_eq_true h2]; try rfl) ?_
    refine RunR.sl hU [] 3 8 [0, 1, 5, 13] [(0, .int .i64 k), (1, .slice La lm lc), (5, .int .i64 i), (13, .bool (decide (i ≤ 40)))] 3 ?_
    refine RunR.nn ?_
    refine RunC.condp (i ≤ 40) (by kernel_rfl) (fun h3 => ?_) (fun h3 => ?_)
    · skip
      refine RunC.ks ?_
      refine RunC.seq ?_
      refine RunC.block ?_
      refine RunC.sr ?_
      refine RunR.sil hU [] 3 3 [0, 1, 5, 18] [(0, .int .i64 k), (1, .slice La lm lc), (5, .int .i64 i), (18, .pointer (elemAt La i 2))] ((True) ∧ (True) ∧ ((0 ≤ i ∧ i < ((lm : Nat) : Int)) ∧ Option.isSome La = true) ∧ True) rfl (by kernel_rfl) ⟨trivial, trivial, ⟨by omega, hA1 (by omega)⟩, trivial⟩ ?_
      refine RunR.know (p := ∃ b o, La = some ⟨b, o, none⟩) (fun _ _ w hs => tells_at hs 0 rfl (tells_vw _ _) (by rw [chV_len]; omega)) (fun ⟨b4, o5, hA6⟩ => ?_)
      obtain ⟨k7, Ae8, ce9, xe10, hg11, hf12, hr13, hc14, hl15⟩ := ch_at (by assumption : ChOK .u8 ls) (i := (i).toNat) (by omega)
      have hf16 := hf12; simp only [fits] at hf16
      refine RunR.ev [0, 1, 5, 18] [(0, .int .i64 k), (1, .slice La lm lc), (5, .int .i64 i), (18, .pointer (elemAt La i 2))] ?_
      refine RunR.enveq [(0, .int .i64 k), (1, .slice La lm lc), (5, .int .i64 i), (18, .pointer (some ⟨b4, o5 + (i).toNat * 2, none⟩))] (by rw [elem_at hA6]) ?_
      refine RunR.sl hU [] 1 4 [0, 1, 5, 19] [(0, .int .i64 k), (1, .slice La lm lc), (5, .int .i64 i), (19, .pointer (some ⟨b4, o5 + (i).toNat * 2, none⟩))] 1 ?_
      refine RunR.st (some 20) (.load 3 (.tmp 19)) (Step.load_ofat hU 0 (vw La (chV ls)) La b4 o5 ((i).toNat * 2) (chV ls) (.int .i64 k7) hA6 (by kernel_rfl) (by kernel_rfl) (tells_vw _ _) (loadv_ch0 (by kernel_rfl) hg11) (by kernel_rfl) (by rw [chV_len]; omega) ?_)
      refine RunR.sl hU [] 2 7 [0, 1, 5, 22] [(0, .int .i64 k), (1, .slice La lm lc), (5, .int .i64 i), (22, .bool (decide (k7 < 0)))] 2 ?_
      refine RunR.ev [0, 1, 5, 22] [(0, .int .i64 k), (1, .slice La lm lc), (5, .int .i64 i), (22, .bool (decide (k7 < 0)))] ?_
      by_cases h17 : k7 < 0
      · skip
        refine RunR.enveq [(0, .int .i64 k), (1, .slice La lm lc), (5, .int .i64 i), (22, .bool true)] (by rw [decide_eq_true h17]; try rfl) ?_
        refine RunR.sl hU [] 17 24 [0, 1, 5, 39] [(0, .int .i64 k), (1, .slice La lm lc), (5, .int .i64 i), (39, .bool true)] 3 ?_
        refine RunR.nn ?_
        refine RunC.cond (b := true) (by kernel_rfl) (fun _ => ?_) (fun h => by cases h)
        refine RunC.sr ?_
        refine RunR.sl hU [] 1 1 [0, 1, 4, 5] [(0, .int .i64 k), (1, .slice La lm lc), (4, .bool false), (5, .int .i64 i)] 1 ?_
        refine RunR.nn ?_
        refine RunC.ret ?_
        refine kblock_r ?_
        refine kseq_r ?_
        refine kloop_r ?_
        refine kblock_r ?_
        refine kseq_r ?_
        refine kret_r [.bool false] [] [] ⟨rfl, trivial⟩ (by kernel_rfl) rfl ⟨(by (exact congrArg Value.bool (decide_eq_false (fun g => absurd (mok_at g.2 (by assumption)) (by omega))).symm)), (by rfl)⟩
      · skip
        refine RunR.enveq [(0, .int .i64 k), (1, .slice La lm lc), (5, .int .i64 i), (22, .bool false)] (by rw [decide_eq_false h17]; try rfl) ?_
        refine RunR.sil hU [] 3 10 [0, 1, 5, 22, 25] [(0, .int .i64 k), (1, .slice La lm lc), (5, .int .i64 i), (22, .bool false), (25, .pointer (elemAt La i 2))] ((True) ∧ (True) ∧ ((0 ≤ i ∧ i < ((lm : Nat) : Int)) ∧ Option.isSome La = true) ∧ True) rfl (by kernel_rfl) ⟨trivial, trivial, ⟨by omega, hA1 (by omega)⟩, trivial⟩ ?_
        refine RunR.ev [0, 1, 5, 22, 25] [(0, .int .i64 k), (1, .slice La lm lc), (5, .int .i64 i), (22, .bool false), (25, .pointer (elemAt La i 2))] ?_
        refine RunR.enveq [(0, .int .i64 k), (1, .slice La lm lc), (5, .int .i64 i), (22, .bool false), (25, .pointer (some ⟨b4, o5 + (i).toNat * 2, none⟩))] (by rw [elem_at hA6]) ?_
        refine RunR.sl hU [] 1 11 [0, 1, 5, 22, 26] [(0, .int .i64 k), (1, .slice La lm lc), (5, .int .i64 i), (22, .bool false), (26, .pointer (some ⟨b4, o5 + (i).toNat * 2, none⟩))] 1 ?_
        refine RunR.st (some 27) (.load 3 (.tmp 26)) (Step.load_ofat hU 0 (vw La (chV ls)) La b4 o5 ((i).toNat * 2) (chV ls) (.int .i64 k7) hA6 (by kernel_rfl) (by kernel_rfl) (tells_vw _ _) (loadv_ch0 (by kernel_rfl) hg11) (by kernel_rfl) (by rw [chV_len]; omega) ?_)
        refine RunR.sl hU [] 4 16 [0, 1, 5, 31] [(0, .int .i64 k), (1, .slice La lm lc), (5, .int .i64 i), (31, .bool (decide (k7 ≥ k)))] 4 ?_
        refine RunR.ev [0, 1, 5, 31] [(0, .int .i64 k), (1, .slice La lm lc), (5, .int .i64 i), (31, .bool (decide (k7 ≥ k)))] ?_
        by_cases h18 : k7 ≥ k
        · skip
          refine RunR.enveq [(0, .int .i64 k), (1, .slice La lm lc), (5, .int .i64 i), (31, .bool true)] (by rw [decide_eq_true h18]; try rfl) ?_
          refine RunR.sl hU [] 8 24 [0, 1, 5, 39] [(0, .int .i64 k), (1, .slice La lm lc), (5, .int .i64 i), (39, .bool true)] 1 ?_
          refine RunR.nn ?_
          refine RunC.cond (b := true) (by kernel_rfl) (fun _ => ?_) (fun h => by cases h)
          refine RunC.sr ?_
          refine RunR.sl hU [] 1 1 [0, 1, 4, 5] [(0, .int .i64 k), (1, .slice La lm lc), (4, .bool false), (5, .int .i64 i)] 1 ?_
          refine RunR.nn ?_
          refine RunC.ret ?_
          refine kblock_r ?_
          refine kseq_r ?_
          refine kloop_r ?_
          refine kblock_r ?_
          refine kseq_r ?_
          refine kret_r [.bool false] [] [] ⟨rfl, trivial⟩ (by kernel_rfl) rfl ⟨(by (exact congrArg Value.bool (decide_eq_false (fun g => absurd (mok_at g.2 (by assumption)) (by omega))).symm)), (by rfl)⟩
        · skip
          refine RunR.enveq [(0, .int .i64 k), (1, .slice La lm lc), (5, .int .i64 i), (31, .bool false)] (by rw [decide_eq_false h18]; try rfl) ?_
          refine RunR.sil hU [] 3 19 [0, 1, 5, 31, 34] [(0, .int .i64 k), (1, .slice La lm lc), (5, .int .i64 i), (31, .bool false), (34, .pointer (elemAt La i 2))] ((True) ∧ (True) ∧ ((0 ≤ i ∧ i < ((lm : Nat) : Int)) ∧ Option.isSome La = true) ∧ True) rfl (by kernel_rfl) ⟨trivial, trivial, ⟨by omega, hA1 (by omega)⟩, trivial⟩ ?_
          refine RunR.ev [0, 1, 5, 31, 34] [(0, .int .i64 k), (1, .slice La lm lc), (5, .int .i64 i), (31, .bool false), (34, .pointer (elemAt La i 2))] ?_
          refine RunR.enveq [(0, .int .i64 k), (1, .slice La lm lc), (5, .int .i64 i), (31, .bool false), (34, .pointer (some ⟨b4, o5 + (i).toNat * 2, none⟩))] (by rw [elem_at hA6]) ?_
          refine RunR.sl hU [] 1 20 [0, 1, 5, 31, 35] [(0, .int .i64 k), (1, .slice La lm lc), (5, .int .i64 i), (31, .bool false), (35, .pointer (some ⟨b4, o5 + (i).toNat * 2 + 1, none⟩))] 1 ?_
          refine RunR.st (some 36) (.load 23 (.tmp 35)) (Step.load_ofat hU 0 (vw La (chV ls)) La b4 o5 ((i).toNat * 2 + 1) (chV ls) (.slice Ae8 xe10.length ce9) hA6 (by kernel_rfl) (by kernel_rfl) (tells_vw _ _) (loadv_ch1 (by kernel_rfl) hg11) (by kernel_rfl) (by rw [chV_len]; omega) ?_)
          refine RunR.sl hU [] 3 24 [0, 1, 5, 39] [(0, .int .i64 k), (1, .slice La lm lc), (5, .int .i64 i), (39, .bool (!decide (((xe10.length : Nat) : Int) = 256)))] 3 ?_
          refine RunR.nn ?_
          refine RunC.condn (((xe10.length : Nat) : Int) = 256) (by kernel_rfl) (fun h19 => ?_) (fun h19 => ?_)
          · skip
            refine RunC.sr ?_
            refine RunR.sl hU [] 1 1 [0, 1, 4, 5] [(0, .int .i64 k), (1, .slice La lm lc), (4, .bool false), (5, .int .i64 i)] 1 ?_
            refine RunR.nn ?_
            refine RunC.ret ?_
            refine kblock_r ?_
            refine kseq_r ?_
            refine kloop_r ?_
            refine kblock_r ?_
            refine kseq_r ?_
            refine kret_r [.bool false] [] [] ⟨rfl, trivial⟩ (by kernel_rfl) rfl ⟨(by (exact congrArg Value.bool (decide_eq_false (fun g => absurd (mok_at g.2 (by assumption)) (by omega))).symm)), (by rfl)⟩
          · skip
            refine RunC.skip ?_
            refine kblock_n ?_
            refine kseq_n ?_
            refine RunC.region ?_
            refine RunR.sil hU [1] 3 3 [0, 1, 5] [(0, .int .i64 k), (1, .slice La lm lc), (5, .int .i64 (i + 1))] ((True) ∧ (-9223372036854775808 ≤ (i + 1) ∧ (i + 1) < 9223372036854775808) ∧ (True) ∧ True) rfl (by kernel_rfl) ⟨trivial, (by omega), trivial, trivial⟩ ?_
            refine RunR.dn ?_
            refine kloop_n _ [0, 1, 5] [0] [(0, .int .i64 k), (1, .slice La lm lc), (5, .int .i64 (i + 1))] [vw La (chV ls)] (by kernel_rfl) (by kernel_rfl) ?_ ⟨(i + 1), (by omega), (by omega), (by assumption), (by rw [show (i + 1).toNat = i.toNat + 1 by omega]; exact mok_succ hM (by assumption) (by omega) (by omega) (by omega)), rfl, (by rfl), (by rfl)⟩
            show ((41 - (i + 1)).toNat : Nat) < ((41 - i).toNat : Nat)
            omega
    · skip
      refine RunC.exit ?_
      refine kseq_e ?_
      refine kloop_e ?_
      refine kblock_e ?_
      refine kseq_n ?_
      refine RunC.sr ?_
      refine RunR.sl hU [] 4 4 [4] [(4, .bool (decide (((lm : Nat) : Int) ≤ 40)))] 4 ?_
      refine RunR.nn ?_
      refine RunC.ret ?_
      refine kret_r [.bool (decide (((lm : Nat) : Int) ≤ 40))] [] [] ⟨rfl, trivial⟩ (by kernel_rfl) rfl ⟨(by (exact congrArg Value.bool (decide_eq_decide.2 ⟨fun g => absurd g (by omega), fun g => by have := g.1; omega⟩))), (by rfl)⟩
  · skip
    refine RunR.enveq [(0, .int .i64 k), (1, .slice La lm lc), (5, .int .i64 i), (10, .bool false)] (by rw [decide_eq_false h2]; try rfl) ?_
    refine RunR.sl hU [] 3 8 [0, 1, 5, 13] [(0, .int .i64 k), (1, .slice La lm lc), (5, .int .i64 i), (13, .bool false)] 1 ?_
    refine RunR.nn ?_
    refine RunC.cond (b := false) (by kernel_rfl) (fun h => by cases h) (fun _ => ?_)
    refine RunC.exit ?_
    refine kseq_e ?_
    refine kloop_e ?_
    refine kblock_e ?_
    refine kseq_n ?_
    refine RunC.sr ?_
    refine RunR.sl hU [] 4 4 [4] [(4, .bool (decide (((lm : Nat) : Int) ≤ 40)))] 4 ?_
    refine RunR.nn ?_
    refine RunC.ret ?_
    refine kret_r [.bool (decide (((lm : Nat) : Int) ≤ 40))] [] [] ⟨rfl, trivial⟩ (by kernel_rfl) rfl ⟨(by (exact congrArg Value.bool (decide_eq_decide.2 ⟨fun g => ⟨by omega, mok_all hM (by omega)⟩, fun g => by have := g.1; omega⟩))), (by rfl)⟩
end Go.Proofs.Ytaaplakahkgclaa.Y3
