/- What these functions compute: a contract for each, walked through its code. -/
import Derived.Test.YtaaplakahkgclaaSLzk
import Derived.Test.YtaaplakahkgclaaBPure
import Derived.Test.YtaaplakahkgclaaProg
import Derived.Test.YtaaplakahkgclaaX1
import Derived.Test.YtaaplakahkgclaaX2
import Derived.Test.YtaaplakahkgclaaX3
import Derived.Test.YtaaplakahkgclaaX4
import Derived.Test.YtaaplakahkgclaaX5
import Derived.Test.YtaaplakahkgclaaX6
import Derived.Test.YtaaplakahkgclaaX7
import Derived.Test.YtaaplakahkgclaaX8
import Derived.Test.YtaaplakahkgclaaX9
import Derived.Test.YtaaplakahkgclaaY1
namespace Go.Proofs.Ytaaplakahkgclaa.Y2
open Go Go.Proofs.Ytaaplakahkgclaa.SL Go.Proofs.Ytaaplakahkgclaa.SL.W Go.Proofs.Ytaaplakahkgclaa.SL.D Go.Proofs.Ytaaplakahkgclaa.X1 Go.Proofs.Ytaaplakahkgclaa.X2 Go.Proofs.Ytaaplakahkgclaa.X3 Go.Proofs.Ytaaplakahkgclaa.X4 Go.Proofs.Ytaaplakahkgclaa.X5 Go.Proofs.Ytaaplakahkgclaa.X6 Go.Proofs.Ytaaplakahkgclaa.X7 Go.Proofs.Ytaaplakahkgclaa.X8 Go.Proofs.Ytaaplakahkgclaa.X9 Go.Proofs.Ytaaplakahkgclaa.Y1
set_option linter.unusedVariables false
set_option linter.unusedSimpArgs false
set_option maxRecDepth 100000
set_option maxHeartbeats 40000000
def U : Tab where
  und := [(3, .int .i64), (4, .bool), (5, .int .u8), (23, .slice 5), (28, .slice 51), (30, .pointer 70), (32, .pointer 72), (33, .int .i64), (50, .struct #[{ name := "Block", type := 3, offset := 0, embedded := false, tag := "", pkgPath := "", byteOffset := 0 }, { name := "Data", type := 23, offset := 1, embedded := false, tag := "", pkgPath := "", byteOffset := 8 }]), (51, .struct #[{ name := "Block", type := 3, offset := 0, embedded := false, tag := "", pkgPath := "", byteOffset := 0 }, { name := "Data", type := 23, offset := 1, embedded := false, tag := "", pkgPath := "", byteOffset := 8 }]), (69, .struct #[{ name := "safe", type := 23, offset := 0, embedded := false, tag := "", pkgPath := "orlop/disk", byteOffset := 0 }, { name := "wait", type := 28, offset := 1, embedded := false, tag := "", pkgPath := "orlop/disk", byteOffset := 24 }, { name := "left", type := 3, offset := 2, embedded := false, tag := "", pkgPath := "orlop/disk", byteOffset := 48 }, { name := "down", type := 4, offset := 3, embedded := false, tag := "", pkgPath := "orlop/disk", byteOffset := 56 }]), (70, .struct #[{ name := "safe", type := 23, offset := 0, embedded := false, tag := "", pkgPath := "orlop/disk", byteOffset := 0 }, { name := "wait", type := 28, offset := 1, embedded := false, tag := "", pkgPath := "orlop/disk", byteOffset := 24 }, { name := "left", type := 3, offset := 2, embedded := false, tag := "", pkgPath := "orlop/disk", byteOffset := 48 }, { name := "down", type := 4, offset := 3, embedded := false, tag := "", pkgPath := "orlop/disk", byteOffset := 56 }]), (71, .struct #[{ name := "d", type := 30, offset := 0, embedded := false, tag := "", pkgPath := "orlop/wal", byteOffset := 0 }]), (72, .struct #[{ name := "d", type := 30, offset := 0, embedded := false, tag := "", pkgPath := "orlop/wal", byteOffset := 0 }])]
  fld := [((50, 0), (0, 3)), ((50, 1), (1, 23)), ((51, 0), (0, 3)), ((51, 1), (1, 23)), ((69, 0), (0, 23)), ((69, 1), (1, 28)), ((69, 2), (2, 3)), ((69, 3), (3, 4)), ((70, 0), (0, 23)), ((70, 1), (1, 28)), ((70, 2), (2, 3)), ((70, 3), (3, 4)), ((71, 0), (0, 30)), ((72, 0), (0, 30))]
  sz := [(3, 1), (4, 1), (5, 1), (23, 1), (28, 1), (30, 1), (32, 1), (33, 1), (50, 2), (51, 2), (69, 4), (70, 4), (71, 1), (72, 1)]
  ti := [(3, (1, 8, .int .i64 0)), (4, (1, 1, .bool false)), (5, (1, 1, .int .u8 0)), (23, (1, 24, .slice none 0 0)), (28, (1, 24, .slice none 0 0)), (30, (1, 8, .pointer none)), (32, (1, 8, .pointer none)), (33, (1, 8, .int .i64 0)), (50, (2, 32, .agg #[.int .i64 0, .slice none 0 0])), (51, (2, 32, .agg #[.int .i64 0, .slice none 0 0])), (69, (4, 64, .agg #[.slice none 0 0, .slice none 0 0, .int .i64 0, .bool false])), (70, (4, 64, .agg #[.slice none 0 0, .slice none 0 0, .int .i64 0, .bool false])), (71, (1, 8, .agg #[.pointer none])), (72, (1, 8, .agg #[.pointer none]))]
  bld := [(50, [(0, 1), (1, 1)]), (51, [(0, 1), (1, 1)]), (69, [(0, 1), (1, 1), (2, 1), (3, 1)]), (70, [(0, 1), (1, 1), (2, 1), (3, 1)]), (71, [(0, 1)]), (72, [(0, 1)])]

theorem hU : U.OK Try.prog where
  und := by
    intro p hp
    simp only [U, List.mem_cons, List.not_mem_nil, or_false] at hp
    rcases hp with rfl | rfl | rfl | rfl | rfl | rfl | rfl | rfl | rfl | rfl | rfl | rfl | rfl | rfl
    · exact Try.underlying3
    · exact Try.underlying4
    · exact Try.underlying5
    · exact Try.underlying23
    · exact Try.underlying28
    · exact Try.underlying30
    · exact Try.underlying32
    · exact Try.underlying33
    · exact Try.underlying50
    · exact Try.underlying51
    · exact Try.underlying69
    · exact Try.underlying70
    · exact Try.underlying71
    · exact Try.underlying72
  fld := by
    intro p hp
    simp only [U, List.mem_cons, List.not_mem_nil, or_false] at hp
    rcases hp with rfl | rfl | rfl | rfl | rfl | rfl | rfl | rfl | rfl | rfl | rfl | rfl | rfl | rfl
    · exact ⟨_, _, Try.underlying50, rfl, rfl, rfl, Try.prog.types[3]!, by kernel_rfl, by decide +kernel⟩
    · exact ⟨_, _, Try.underlying50, rfl, rfl, rfl, Try.prog.types[23]!, by kernel_rfl, by decide +kernel⟩
    · exact ⟨_, _, Try.underlying51, rfl, rfl, rfl, Try.prog.types[3]!, by kernel_rfl, by decide +kernel⟩
    · exact ⟨_, _, Try.underlying51, rfl, rfl, rfl, Try.prog.types[23]!, by kernel_rfl, by decide +kernel⟩
    · exact ⟨_, _, Try.underlying69, rfl, rfl, rfl, Try.prog.types[23]!, by kernel_rfl, by decide +kernel⟩
    · exact ⟨_, _, Try.underlying69, rfl, rfl, rfl, Try.prog.types[28]!, by kernel_rfl, by decide +kernel⟩
    · exact ⟨_, _, Try.underlying69, rfl, rfl, rfl, Try.prog.types[3]!, by kernel_rfl, by decide +kernel⟩
    · exact ⟨_, _, Try.underlying69, rfl, rfl, rfl, Try.prog.types[4]!, by kernel_rfl, by decide +kernel⟩
    · exact ⟨_, _, Try.underlying70, rfl, rfl, rfl, Try.prog.types[23]!, by kernel_rfl, by decide +kernel⟩
    · exact ⟨_, _, Try.underlying70, rfl, rfl, rfl, Try.prog.types[28]!, by kernel_rfl, by decide +kernel⟩
    · exact ⟨_, _, Try.underlying70, rfl, rfl, rfl, Try.prog.types[3]!, by kernel_rfl, by decide +kernel⟩
    · exact ⟨_, _, Try.underlying70, rfl, rfl, rfl, Try.prog.types[4]!, by kernel_rfl, by decide +kernel⟩
    · exact ⟨_, _, Try.underlying71, rfl, rfl, rfl, Try.prog.types[30]!, by kernel_rfl, by decide +kernel⟩
    · exact ⟨_, _, Try.underlying72, rfl, rfl, rfl, Try.prog.types[30]!, by kernel_rfl, by decide +kernel⟩
  sz := by
    intro p hp
    simp only [U, List.mem_cons, List.not_mem_nil, or_false] at hp
    rcases hp with rfl | rfl | rfl | rfl | rfl | rfl | rfl | rfl | rfl | rfl | rfl | rfl | rfl | rfl
    · exact ⟨Try.prog.types[3]!, by kernel_rfl, by kernel_rfl⟩
    · exact ⟨Try.prog.types[4]!, by kernel_rfl, by kernel_rfl⟩
    · exact ⟨Try.prog.types[5]!, by kernel_rfl, by kernel_rfl⟩
    · exact ⟨Try.prog.types[23]!, by kernel_rfl, by kernel_rfl⟩
    · exact ⟨Try.prog.types[28]!, by kernel_rfl, by kernel_rfl⟩
    · exact ⟨Try.prog.types[30]!, by kernel_rfl, by kernel_rfl⟩
    · exact ⟨Try.prog.types[32]!, by kernel_rfl, by kernel_rfl⟩
    · exact ⟨Try.prog.types[33]!, by kernel_rfl, by kernel_rfl⟩
    · exact ⟨Try.prog.types[50]!, by kernel_rfl, by kernel_rfl⟩
    · exact ⟨Try.prog.types[51]!, by kernel_rfl, by kernel_rfl⟩
    · exact ⟨Try.prog.types[69]!, by kernel_rfl, by kernel_rfl⟩
    · exact ⟨Try.prog.types[70]!, by kernel_rfl, by kernel_rfl⟩
    · exact ⟨Try.prog.types[71]!, by kernel_rfl, by kernel_rfl⟩
    · exact ⟨Try.prog.types[72]!, by kernel_rfl, by kernel_rfl⟩
  ti := by
    intro p hp
    simp only [U, List.mem_cons, List.not_mem_nil, or_false] at hp
    rcases hp with rfl | rfl | rfl | rfl | rfl | rfl | rfl | rfl | rfl | rfl | rfl | rfl | rfl | rfl
    · exact ⟨Try.prog.types[3]!, by kernel_rfl, by kernel_rfl, by kernel_rfl, by kernel_rfl⟩
    · exact ⟨Try.prog.types[4]!, by kernel_rfl, by kernel_rfl, by kernel_rfl, by kernel_rfl⟩
    · exact ⟨Try.prog.types[5]!, by kernel_rfl, by kernel_rfl, by kernel_rfl, by kernel_rfl⟩
    · exact ⟨Try.prog.types[23]!, by kernel_rfl, by kernel_rfl, by kernel_rfl, by kernel_rfl⟩
    · exact ⟨Try.prog.types[28]!, by kernel_rfl, by kernel_rfl, by kernel_rfl, by kernel_rfl⟩
    · exact ⟨Try.prog.types[30]!, by kernel_rfl, by kernel_rfl, by kernel_rfl, by kernel_rfl⟩
    · exact ⟨Try.prog.types[32]!, by kernel_rfl, by kernel_rfl, by kernel_rfl, by kernel_rfl⟩
    · exact ⟨Try.prog.types[33]!, by kernel_rfl, by kernel_rfl, by kernel_rfl, by kernel_rfl⟩
    · exact ⟨Try.prog.types[50]!, by kernel_rfl, by kernel_rfl, by kernel_rfl, by kernel_rfl⟩
    · exact ⟨Try.prog.types[51]!, by kernel_rfl, by kernel_rfl, by kernel_rfl, by kernel_rfl⟩
    · exact ⟨Try.prog.types[69]!, by kernel_rfl, by kernel_rfl, by kernel_rfl, by kernel_rfl⟩
    · exact ⟨Try.prog.types[70]!, by kernel_rfl, by kernel_rfl, by kernel_rfl, by kernel_rfl⟩
    · exact ⟨Try.prog.types[71]!, by kernel_rfl, by kernel_rfl, by kernel_rfl, by kernel_rfl⟩
    · exact ⟨Try.prog.types[72]!, by kernel_rfl, by kernel_rfl, by kernel_rfl, by kernel_rfl⟩
  bld := by
    intro p hp
    simp only [U, List.mem_cons, List.not_mem_nil, or_false] at hp
    rcases hp with rfl | rfl | rfl | rfl | rfl | rfl
    · exact ⟨_, Try.underlying50, by kernel_rfl⟩
    · exact ⟨_, Try.underlying51, by kernel_rfl⟩
    · exact ⟨_, Try.underlying69, by kernel_rfl⟩
    · exact ⟨_, Try.underlying70, by kernel_rfl⟩
    · exact ⟨_, Try.underlying71, by kernel_rfl⟩
    · exact ⟨_, Try.underlying72, by kernel_rfl⟩
  mixed := by kernel_rfl

theorem wl_awake_spec  :
    CallsS Try.prog 11 [] [] (fun r D => r = .bool true ∧ D = []) := by
  refine CallsS.enter hU Try.f11 _ [.tmp 0] 67 Try.func11 rfl (by decide) rfl rfl (by kernel_rfl) fun w0 W => ?_
  refine RunC.sr ?_
  refine RunR.sl hU [] 1 1 [0] [(0, .bool false)] 1 ?_
  refine RunR.nx ?_
  refine RunR.st (some 8) (.call { callee := .value (.func 13), args := #[.const (.int .i64 44)], argTypes := #[3] }) (Step.cn 13 [.int .i64 44] [] [] (d_New_spec 44 (by (refine ⟨?_, ?_⟩ <;> omega))) [] ?_)
  rintro _ _ ⟨d21, A92, n93, c94, zs5, rfl, rfl, hp6, hp7, hp8, hp9, hp10, hp11, hp12, hp13⟩
  refine RunR.sl hU [] 1 2 [0, 1] [(0, .bool false), (1, pt d21)] 1 ?_
  refine RunR.nx ?_
  refine RunR.sl hU [] 1 1 [0, 1, 10] [(0, .bool false), (1, pt d21), (10, pt d21)] 1 ?_
  refine RunR.st (some 11) (.call { callee := .value (.func 14), args := #[.tmp 10], argTypes := #[30] }) (Step.cn 14 [pt d21] [blk d21 70 [.slice A92 n93 c94, .slice none 0 0, .int .i64 0, .bool false], row 5 1 (.slice A92 n93 c94) n93 (nums .u8 zs5), row 51 2 (.slice none 0 0) 0 (chV ([] : List Ch)), chd .u8 ([] : List Ch)] [] (wl_Open_spec d21 A92 n93 c94 zs5 none 0 0 ([] : List Ch) 0 false hp6 (by assumption) (by assumption) (fun h => hp9 (by exact h)) (by assumption) (by assumption) (by rfl) (by omega) (by exact ChOK.nil _) (by exact WOK.nil _) (fun h => absurd h (by decide)) (by omega)) [0, 0, 0, 0] ?_)
  rintro _ _ (⟨rfl, rfl, hp14⟩ | ⟨e15, ss216, Wb17, m218, wc219, ws220, lf321, dn322, rfl, rfl, hp23, hp24, hp25, hp26, hp27, hp28, hp29, hp30, hp31, hp32, hp33⟩ | ⟨w234, ss235, Wb36, m237, wc238, ws239, lf340, dn341, rfl, rfl, hp42, hp43, hp44, hp45, hp46, hp47, hp48, hp49, hp50, hp51⟩)
  · skip
    first | (have hq52f := open_calm hp14 (by first | exact calm0 | assumption) (by assumption) (WOK.dat (by first | assumption | exact WOK.nil _)) (by omega); obtain ⟨hq52a, hq52b, hq52c, hq52d, hq52e⟩ := hq52f) | skip
    exfalso; omega
  · skip
    first | (have hq53f := open_calm hp23 (by first | exact calm0 | assumption) (by assumption) (WOK.dat (by first | assumption | exact WOK.nil _)) (by omega); obtain ⟨hq53a, hq53b, hq53c, hq53d, hq53e⟩ := hq53f) | skip
    exfalso; omega
  · skip
    first | (have hq54f := open_calm hp42 (by first | exact calm0 | assumption) (by assumption) (WOK.dat (by first | assumption | exact WOK.nil _)) (by omega); obtain ⟨hq54a, hq54b, hq54c, hq54d, hq54e⟩ := hq54f) | skip
    refine RunR.sl hU [] 5 7 [0, 1, 2, 3] [(0, .bool false), (1, pt d21), (2, pt w234), (3, .int .i64 0)] 5 ?_
    refine RunR.nn ?_
    refine RunC.seq ?_
    refine RunC.sr ?_
    refine RunR.sl hU [] 6 6 [0, 1, 2, 19] [(0, .bool false), (1, pt d21), (2, pt w234), (19, .bool false)] 6 ?_
    refine RunR.nn ?_
    refine RunC.cond (b := false) (by kernel_rfl) (fun h => by cases h) (fun _ => ?_)
    refine RunC.ksr ?_
    refine RunR.sl hU [] 1 1 [0, 1, 2, 20] [(0, .bool false), (1, pt d21), (2, pt w234), (20, pt w234)] 1 ?_
    refine RunR.st (some 21) (.buildSlice 23 1 #[(0, .const (.int .u8 1))]) (Step.lit_nums hU 5 1 .u8 (.int .u8 0) ([1] : List Int) rfl rfl (by kernel_rfl) rfl rfl (by kernel_rfl) (fun b55 => ?_))
    have hl56 : (([1] : List Int)).length = 1 := rfl
    refine RunR.st (some 22) (.call { callee := .value (.func 39), args := #[.tmp 21], argTypes := #[23] }) (Step.cl 39 [.slice (some ⟨b55, 0, none⟩) 1 1] [] [vw (some ⟨b55, 0, none⟩) (nums .u8 ([1] : List Int))] [row 5 1 (.slice (some ⟨b55, 0, none⟩) 1 1) 1 (nums .u8 ([1] : List Int)), blk w234 72 [pt d21], blk d21 70 [.slice A92 n93 c94, .slice Wb36 m237 wc238, .int .i64 lf340, .bool dn341], row 5 1 (.slice A92 n93 c94) n93 (nums .u8 ss235), row 51 2 (.slice Wb36 m237 wc238) m237 (chV ws239), chd .u8 ws239] (d_Full_spec (some ⟨b55, 0, none⟩) 1 ([1] : List Int) 1 (by (repeat first | (simp only [fits]; omega) | with_reducible first | exact In.nil _ | apply In.cons)) (by omega) (by omega) (by rfl)) [] ((Lend.nil _).tells 0 (row 5 1 (.slice (some ⟨b55, 0, none⟩) 1 1) 1 (nums .u8 ([1] : List Int))) (some ⟨b55, 0, none⟩) (nums .u8 ([1] : List Int)) (by kernel_rfl) (tells_row _ _ _ _ _ _)) ?_)
    rintro _ _ ⟨A957, c958, zs59, rfl, rfl, hp60, hp61, hp62, hp63, hp64⟩
    refine RunR.sl hU [] 1 4 [0, 1, 2, 20, 23] [(0, .bool false), (1, pt d21), (2, pt w234), (20, pt w234), (23, .agg #[.int .i64 0, .slice A957 256 c958])] 1 ?_
    refine RunR.st (some 24) (.buildSlice 23 1 #[(0, .const (.int .u8 2))]) (Step.lit_nums hU 5 1 .u8 (.int .u8 0) ([2] : List Int) rfl rfl (by kernel_rfl) rfl rfl (by kernel_rfl) (fun b65 => ?_))
    have hl66 : (([2] : List Int)).length = 1 := rfl
    refine RunR.st (some 25) (.call { callee := .value (.func 39), args := #[.tmp 24], argTypes := #[23] }) (Step.cl 39 [.slice (some ⟨b65, 0, none⟩) 1 1] [] [vw (some ⟨b65, 0, none⟩) (nums .u8 ([2] : List Int))] [row 5 1 (.slice (some ⟨b65, 0, none⟩) 1 1) 1 (nums .u8 ([2] : List Int)), row 5 1 (.slice A957 256 c958) 256 (nums .u8 zs59), row 5 1 (.slice (some ⟨b55, 0, none⟩) 1 1) 1 (nums .u8 ([1] : List Int)), blk w234 72 [pt d21], blk d21 70 [.slice A92 n93 c94, .slice Wb36 m237 wc238, .int .i64 lf340, .bool dn341], row 5 1 (.slice A92 n93 c94) n93 (nums .u8 ss235), row 51 2 (.slice Wb36 m237 wc238) m237 (chV ws239), chd .u8 ws239] (d_Full_spec (some ⟨b65, 0, none⟩) 1 ([2] : List Int) 1 (by (repeat first | (simp only [fits]; omega) | with_reducible first | exact In.nil _ | apply In.cons)) (by omega) (by omega) (by rfl)) [] ((Lend.nil _).tells 0 (row 5 1 (.slice (some ⟨b65, 0, none⟩) 1 1) 1 (nums .u8 ([2] : List Int))) (some ⟨b65, 0, none⟩) (nums .u8 ([2] : List Int)) (by kernel_rfl) (tells_row _ _ _ _ _ _)) ?_)
    rintro _ _ ⟨A967, c968, zs69, rfl, rfl, hp70, hp71, hp72, hp73, hp74⟩
    refine RunR.sl hU [] 1 7 [0, 1, 2, 20, 23, 26] [(0, .bool false), (1, pt d21), (2, pt w234), (20, pt w234), (23, .agg #[.int .i64 0, .slice A957 256 c958]), (26, .agg #[.int .i64 1, .slice A967 256 c968])] 1 ?_
    refine RunR.ev [0, 1, 2, 20, 23, 26] [(0, .bool false), (1, pt d21), (2, pt w234), (20, pt w234), (23, .agg #[.int .i64 0, .slice A957 256 c958]), (26, .agg #[.int .i64 1, .slice A967 256 c968])] ?_
    have hl76 : (zs59).length = 256 := by assumption
    refine RunR.enveq [(0, .bool false), (1, pt d21), (2, pt w234), (20, pt w234), (23, .agg #[.int .i64 0, .slice A957 zs59.length c958]), (26, .agg #[.int .i64 1, .slice A967 256 c968])] (by rw [hl76]) ?_
    refine RunR.ev [0, 1, 2, 20, 23, 26] [(0, .bool false), (1, pt d21), (2, pt w234), (20, pt w234), (23, .agg #[.int .i64 0, .slice A957 zs59.length c958]), (26, .agg #[.int .i64 1, .slice A967 256 c968])] ?_
    have hl77 : (zs69).length = 256 := by assumption
    refine RunR.enveq [(0, .bool false), (1, pt d21), (2, pt w234), (20, pt w234), (23, .agg #[.int .i64 0, .slice A957 zs59.length c958]), (26, .agg #[.int .i64 1, .slice A967 zs69.length c968])] (by rw [hl77]) ?_
    refine RunR.st (some 27) (.buildSlice 28 2 #[(0, .tmp 23), (1, .tmp 26)]) (Step.lit_pair2 hU 51 32 (.agg #[.int .i64 0, .slice none 0 0]) (.int .i64 0) (.slice A957 zs59.length c958) (.int .i64 1) (.slice A967 zs69.length c968) (by kernel_rfl) (by kernel_rfl) (by kernel_rfl) (by kernel_rfl) (by kernel_rfl) (fun b75 => ?_))
    refine RunR.turn ([row 51 2 (.slice (some ⟨b75, 0, none⟩) 2 2) 2 (chV ([(0, A957, c958, zs59), (1, A967, c968, zs69)] : List Ch)), row 5 1 (.slice A967 256 c968) 256 (nums .u8 zs69), row 5 1 (.slice (some ⟨b65, 0, none⟩) 1 1) 1 (nums .u8 ([2] : List Int)), row 5 1 (.slice A957 256 c958) 256 (nums .u8 zs59), row 5 1 (.slice (some ⟨b55, 0, none⟩) 1 1) 1 (nums .u8 ([1] : List Int)), blk w234 72 [pt d21], blk d21 70 [.slice A92 n93 c94, .slice Wb36 m237 wc238, .int .i64 lf340, .bool dn341], row 5 1 (.slice A92 n93 c94) n93 (nums .u8 ss235), row 51 2 (.slice Wb36 m237 wc238) m237 (chV ws239), chd .u8 ws239]) (fun _ _ w hs => hs) ?_
    refine RunR.st (some 28) (.call { callee := .value (.func 16), args := #[.tmp 20, .tmp 27], argTypes := #[32, 28] }) (Step.cl 16 [pt w234, .slice (some ⟨b75, 0, none⟩) 2 2] [blk w234 72 [pt d21], blk d21 70 [.slice A92 n93 c94, .slice Wb36 m237 wc238, .int .i64 lf340, .bool dn341], row 5 1 (.slice A92 n93 c94) n93 (nums .u8 ss235), row 51 2 (.slice Wb36 m237 wc238) m237 (chV ws239), chd .u8 ws239] [vw (some ⟨b75, 0, none⟩) (chV ([(0, A957, c958, zs59), (1, A967, c968, zs69)] : List Ch)), vws (chL ([(0, A957, c958, zs59), (1, A967, c968, zs69)] : List Ch))] [row 51 2 (.slice (some ⟨b75, 0, none⟩) 2 2) 2 (chV ([(0, A957, c958, zs59), (1, A967, c968, zs69)] : List Ch)), row 5 1 (.slice A967 256 c968) 256 (nums .u8 zs69), row 5 1 (.slice (some ⟨b65, 0, none⟩) 1 1) 1 (nums .u8 ([2] : List Int)), row 5 1 (.slice A957 256 c958) 256 (nums .u8 zs59), row 5 1 (.slice (some ⟨b55, 0, none⟩) 1 1) 1 (nums .u8 ([1] : List Int))] (wl_Commit_spec w234 d21 A92 n93 c94 ss235 Wb36 m237 wc238 ws239 lf340 dn341 (some ⟨b75, 0, none⟩) 2 2 ([(0, A957, c958, zs59), (1, A967, c968, zs69)] : List Ch) hp43 (by assumption) (by assumption) (fun h => hp9 (by exact h)) (by assumption) (by assumption) (by assumption) (by omega) (by assumption) (by assumption) (fun h => hp49 (by exact h)) (by assumption) (by rfl) (by omega) (by exact chok2 (by refine ⟨?_, ?_⟩ <;> omega) (by assumption) (by omega) (by omega) (by refine ⟨?_, ?_⟩ <;> omega) (by assumption) (by omega) (by omega)) (by assumption)) [5, 5, 5, 5, 5] (((((Lend.nil _).chL0).chL1 1 (row 5 1 (.slice A967 256 c968) 256 (nums .u8 zs69)) 1 A967 c968 zs69 (by kernel_rfl) (tells_row _ _ _ _ _ _)).chL1 3 (row 5 1 (.slice A957 256 c958) 256 (nums .u8 zs59)) 0 A957 c958 zs59 (by kernel_rfl) (tells_row _ _ _ _ _ _)).tells 0 (row 51 2 (.slice (some ⟨b75, 0, none⟩) 2 2) 2 (chV ([(0, A957, c958, zs59), (1, A967, c968, zs69)] : List Ch))) (some ⟨b75, 0, none⟩) (chV ([(0, A957, c958, zs59), (1, A967, c968, zs69)] : List Ch)) (by kernel_rfl) (tells_row _ _ _ _ _ _)) ?_)
    rintro _ _ ⟨e78, ss279, Wb80, m281, wc282, ws283, lf384, dn385, rfl, rfl, hp86, hp87, hp88, hp89, hp90, hp91, hp92, hp93, hp94⟩
    first | (have hq95f := commit_calm hp86 (by first | exact calm0 | assumption) (by assumption) (WOK.dat (by first | assumption | exact WOK.nil _)) (by omega) (bok2 (by omega) (by omega) (by omega) (by omega) (by omega) (by omega)) (by simp); obtain ⟨hq95a, hq95b, hq95c, hq95d, hq95e⟩ := hq95f) | (have hq95f := commit_no hp86 (bok1_no (by omega)); obtain ⟨hq95a, hq95b, hq95c, hq95d, hq95e⟩ := hq95f)
    refine RunR.sl hU [] 1 10 [0, 1, 2, 4] [(0, .bool false), (1, pt d21), (2, pt w234), (4, .int .i64 e78)] 1 ?_
    refine RunR.nx ?_
    refine RunR.sl hU [] 1 1 [0, 1, 2, 4, 29] [(0, .bool false), (1, pt d21), (2, pt w234), (4, .int .i64 e78), (29, pt w234)] 1 ?_
    refine RunR.turn ([vw none (nums .u8 ([] : List Int)), blk w234 72 [pt d21], blk d21 70 [.slice A92 n93 c94, .slice Wb80 m281 wc282, .int .i64 lf384, .bool dn385], row 5 1 (.slice A92 n93 c94) n93 (nums .u8 ss279), row 51 2 (.slice Wb80 m281 wc282) m281 (chV ws283), chd .u8 ws283, row 51 2 (.slice (some ⟨b75, 0, none⟩) 2 2) 2 (chV ([(0, A957, c958, zs59), (1, A967, c968, zs69)] : List Ch)), row 5 1 (.slice A967 256 c968) 256 (nums .u8 zs69), row 5 1 (.slice (some ⟨b65, 0, none⟩) 1 1) 1 (nums .u8 ([2] : List Int)), row 5 1 (.slice A957 256 c958) 256 (nums .u8 zs59), row 5 1 (.slice (some ⟨b55, 0, none⟩) 1 1) 1 (nums .u8 ([1] : List Int))]) (fun _ _ w hs => hs.nil_vw none) ?_
    refine RunR.st (some 30) (.call { callee := .value (.func 39), args := #[.const (.slice none 0 0)], argTypes := #[23] }) (Step.cl 39 [.slice none 0 0] [] [vw none (nums .u8 ([] : List Int))] [vw none (nums .u8 ([] : List Int)), blk w234 72 [pt d21], blk d21 70 [.slice A92 n93 c94, .slice Wb80 m281 wc282, .int .i64 lf384, .bool dn385], row 5 1 (.slice A92 n93 c94) n93 (nums .u8 ss279), row 51 2 (.slice Wb80 m281 wc282) m281 (chV ws283), chd .u8 ws283, row 51 2 (.slice (some ⟨b75, 0, none⟩) 2 2) 2 (chV ([(0, A957, c958, zs59), (1, A967, c968, zs69)] : List Ch)), row 5 1 (.slice A967 256 c968) 256 (nums .u8 zs69), row 5 1 (.slice (some ⟨b65, 0, none⟩) 1 1) 1 (nums .u8 ([2] : List Int)), row 5 1 (.slice A957 256 c958) 256 (nums .u8 zs59), row 5 1 (.slice (some ⟨b55, 0, none⟩) 1 1) 1 (nums .u8 ([1] : List Int))] (d_Full_spec none 0 ([] : List Int) 0 (by (repeat with_reducible exact In.nil _)) (by (simp only [List.length_append, List.length_cons, List.length_nil, List.length_set, List.length_replicate, List.length_take, List.length_drop]; omega)) (by (simp only [List.length_append, List.length_cons, List.length_nil, List.length_set, List.length_replicate, List.length_take, List.length_drop]; omega)) (by rfl)) [] ((Lend.nil _).tells 0 (vw none (nums .u8 ([] : List Int))) none (nums .u8 ([] : List Int)) (by kernel_rfl) (tells_vw _ _)) ?_)
    rintro _ _ ⟨A996, c997, zs98, rfl, rfl, hp99, hp100, hp101, hp102, hp103⟩
    refine RunR.sl hU [] 1 3 [0, 1, 2, 4, 29, 31] [(0, .bool false), (1, pt d21), (2, pt w234), (4, .int .i64 e78), (29, pt w234), (31, .agg #[.int .i64 2, .slice A996 256 c997])] 1 ?_
    refine RunR.ev [0, 1, 2, 4, 29, 31] [(0, .bool false), (1, pt d21), (2, pt w234), (4, .int .i64 e78), (29, pt w234), (31, .agg #[.int .i64 2, .slice A996 256 c997])] ?_
    have hl105 : (zs98).length = 256 := by assumption
    refine RunR.enveq [(0, .bool false), (1, pt d21), (2, pt w234), (4, .int .i64 e78), (29, pt w234), (31, .agg #[.int .i64 2, .slice A996 zs98.length c997])] (by rw [hl105]) ?_
    refine RunR.st (some 32) (.buildSlice 28 1 #[(0, .tmp 31)]) (Step.lit_pair hU 51 32 (.agg #[.int .i64 0, .slice none 0 0]) (.int .i64 2) (.slice A996 zs98.length c997) (by kernel_rfl) (by kernel_rfl) (by kernel_rfl) rfl rfl (by kernel_rfl) (fun b104 => ?_))
    refine RunR.turn ([row 51 2 (.slice (some ⟨b104, 0, none⟩) 1 1) 1 (chV ([(2, A996, c997, zs98)] : List Ch)), row 5 1 (.slice A996 256 c997) 256 (nums .u8 zs98), vw none (nums .u8 ([] : List Int)), blk w234 72 [pt d21], blk d21 70 [.slice A92 n93 c94, .slice Wb80 m281 wc282, .int .i64 lf384, .bool dn385], row 5 1 (.slice A92 n93 c94) n93 (nums .u8 ss279), row 51 2 (.slice Wb80 m281 wc282) m281 (chV ws283), chd .u8 ws283, row 51 2 (.slice (some ⟨b75, 0, none⟩) 2 2) 2 (chV ([(0, A957, c958, zs59), (1, A967, c968, zs69)] : List Ch)), row 5 1 (.slice A967 256 c968) 256 (nums .u8 zs69), row 5 1 (.slice (some ⟨b65, 0, none⟩) 1 1) 1 (nums .u8 ([2] : List Int)), row 5 1 (.slice A957 256 c958) 256 (nums .u8 zs59), row 5 1 (.slice (some ⟨b55, 0, none⟩) 1 1) 1 (nums .u8 ([1] : List Int))]) (fun _ _ w hs => hs) ?_
    refine RunR.st (some 33) (.call { callee := .value (.func 16), args := #[.tmp 29, .tmp 32], argTypes := #[32, 28] }) (Step.cl 16 [pt w234, .slice (some ⟨b104, 0, none⟩) 1 1] [blk w234 72 [pt d21], blk d21 70 [.slice A92 n93 c94, .slice Wb80 m281 wc282, .int .i64 lf384, .bool dn385], row 5 1 (.slice A92 n93 c94) n93 (nums .u8 ss279), row 51 2 (.slice Wb80 m281 wc282) m281 (chV ws283), chd .u8 ws283] [vw (some ⟨b104, 0, none⟩) (chV ([(2, A996, c997, zs98)] : List Ch)), vws (chL ([(2, A996, c997, zs98)] : List Ch))] [row 51 2 (.slice (some ⟨b104, 0, none⟩) 1 1) 1 (chV ([(2, A996, c997, zs98)] : List Ch)), row 5 1 (.slice A996 256 c997) 256 (nums .u8 zs98), vw none (nums .u8 ([] : List Int)), row 51 2 (.slice (some ⟨b75, 0, none⟩) 2 2) 2 (chV ([(0, A957, c958, zs59), (1, A967, c968, zs69)] : List Ch)), row 5 1 (.slice A967 256 c968) 256 (nums .u8 zs69), row 5 1 (.slice (some ⟨b65, 0, none⟩) 1 1) 1 (nums .u8 ([2] : List Int)), row 5 1 (.slice A957 256 c958) 256 (nums .u8 zs59), row 5 1 (.slice (some ⟨b55, 0, none⟩) 1 1) 1 (nums .u8 ([1] : List Int))] (wl_Commit_spec w234 d21 A92 n93 c94 ss279 Wb80 m281 wc282 ws283 lf384 dn385 (some ⟨b104, 0, none⟩) 1 1 ([(2, A996, c997, zs98)] : List Ch) hp87 (by assumption) (by assumption) (fun h => hp9 (by exact h)) (by assumption) (by assumption) (by assumption) (by omega) (by assumption) (by assumption) (fun h => hp93 (by exact h)) (by assumption) (by rfl) (by omega) (by exact ChOK.one (by refine ⟨?_, ?_⟩ <;> omega) (by assumption) (by omega) (by omega)) (by assumption)) [3, 3, 3, 3, 3] ((((Lend.nil _).chL0).chL1 1 (row 5 1 (.slice A996 256 c997) 256 (nums .u8 zs98)) 2 A996 c997 zs98 (by kernel_rfl) (tells_row _ _ _ _ _ _)).tells 0 (row 51 2 (.slice (some ⟨b104, 0, none⟩) 1 1) 1 (chV ([(2, A996, c997, zs98)] : List Ch))) (some ⟨b104, 0, none⟩) (chV ([(2, A996, c997, zs98)] : List Ch)) (by kernel_rfl) (tells_row _ _ _ _ _ _)) ?_)
    rintro _ _ ⟨e106, ss2107, Wb108, m2109, wc2110, ws2111, lf3112, dn3113, rfl, rfl, hp114, hp115, hp116, hp117, hp118, hp119, hp120, hp121, hp122⟩
    first | (have hq123f := commit_calm hp114 (by first | exact calm0 | assumption) (by assumption) (WOK.dat (by first | assumption | exact WOK.nil _)) (by omega) (bok2 (by omega) (by omega) (by omega) (by omega) (by omega) (by omega)) (by simp); obtain ⟨hq123a, hq123b, hq123c, hq123d, hq123e⟩ := hq123f) | (have hq123f := commit_no hp114 (bok1_no (by omega)); obtain ⟨hq123a, hq123b, hq123c, hq123d, hq123e⟩ := hq123f)
    refine RunR.sl hU [] 1 6 [0, 1, 2, 4, 5] [(0, .bool false), (1, pt d21), (2, pt w234), (4, .int .i64 e78), (5, .int .i64 e106)] 1 ?_
    refine RunR.nx ?_
    refine RunR.sl hU [] 1 1 [0, 2, 4, 5, 34] [(0, .bool false), (2, pt w234), (4, .int .i64 e78), (5, .int .i64 e106), (34, pt d21)] 1 ?_
    refine RunR.turn ([vw none (bls ([] : List Bool)), blk w234 72 [pt d21], blk d21 70 [.slice A92 n93 c94, .slice Wb108 m2109 wc2110, .int .i64 lf3112, .bool dn3113], row 5 1 (.slice A92 n93 c94) n93 (nums .u8 ss2107), row 51 2 (.slice Wb108 m2109 wc2110) m2109 (chV ws2111), chd .u8 ws2111, row 51 2 (.slice (some ⟨b104, 0, none⟩) 1 1) 1 (chV ([(2, A996, c997, zs98)] : List Ch)), row 5 1 (.slice A996 256 c997) 256 (nums .u8 zs98), vw none (nums .u8 ([] : List Int)), row 51 2 (.slice (some ⟨b75, 0, none⟩) 2 2) 2 (chV ([(0, A957, c958, zs59), (1, A967, c968, zs69)] : List Ch)), row 5 1 (.slice A967 256 c968) 256 (nums .u8 zs69), row 5 1 (.slice (some ⟨b65, 0, none⟩) 1 1) 1 (nums .u8 ([2] : List Int)), row 5 1 (.slice A957 256 c958) 256 (nums .u8 zs59), row 5 1 (.slice (some ⟨b55, 0, none⟩) 1 1) 1 (nums .u8 ([1] : List Int))]) (fun _ _ w hs => hs.nil_vw none) ?_
    refine RunR.st (some 35) (.call { callee := .value (.func 21), args := #[.tmp 34, .const (.slice none 0 0)], argTypes := #[30, 24] }) (Step.cl 21 [pt d21, .slice none 0 0] [blk d21 70 [.slice A92 n93 c94, .slice Wb108 m2109 wc2110, .int .i64 lf3112, .bool dn3113], row 5 1 (.slice A92 n93 c94) n93 (nums .u8 ss2107), row 51 2 (.slice Wb108 m2109 wc2110) m2109 (chV ws2111), chd .u8 ws2111] [vw none (bls ([] : List Bool))] [vw none (bls ([] : List Bool)), blk w234 72 [pt d21], row 51 2 (.slice (some ⟨b104, 0, none⟩) 1 1) 1 (chV ([(2, A996, c997, zs98)] : List Ch)), row 5 1 (.slice A996 256 c997) 256 (nums .u8 zs98), vw none (nums .u8 ([] : List Int)), row 51 2 (.slice (some ⟨b75, 0, none⟩) 2 2) 2 (chV ([(0, A957, c958, zs59), (1, A967, c968, zs69)] : List Ch)), row 5 1 (.slice A967 256 c968) 256 (nums .u8 zs69), row 5 1 (.slice (some ⟨b65, 0, none⟩) 1 1) 1 (nums .u8 ([2] : List Int)), row 5 1 (.slice A957 256 c958) 256 (nums .u8 zs59), row 5 1 (.slice (some ⟨b55, 0, none⟩) 1 1) 1 (nums .u8 ([1] : List Int))] (d_Crash_spec d21 A92 n93 c94 ss2107 Wb108 m2109 wc2110 ws2111 lf3112 dn3113 none 0 ([] : List Bool) 0 hp115 (by assumption) (by assumption) (fun h => hp9 (by exact h)) (by assumption) (by assumption) (by assumption) (by omega) (by assumption) (by assumption) (fun h => hp121 (by exact h)) (by (simp only [List.length_append, List.length_cons, List.length_nil, List.length_set, List.length_replicate, List.length_take, List.length_drop]; omega)) (by rfl)) [2, 2, 2, 2] ((Lend.nil _).tells 0 (vw none (bls ([] : List Bool))) none (bls ([] : List Bool)) (by kernel_rfl) (tells_vw _ _)) ?_)
    rintro _ _ ⟨ss2124, rfl, rfl, hp125, hp126, hp127⟩
    refine RunR.nx ?_
    refine RunR.sl hU [] 1 1 [0, 2, 4, 5, 37] [(0, .bool false), (2, pt w234), (4, .int .i64 e78), (5, .int .i64 e106), (37, pt w234)] 1 ?_
    refine RunR.st (some 38) (.call { callee := .value (.func 30), args := #[.tmp 37, .const (.int .i64 1)], argTypes := #[32, 3] }) (Step.cn 30 [pt w234, .int .i64 1] [blk w234 72 [pt d21], blk d21 70 [.slice A92 n93 c94, .slice none 0 0, .int .i64 0, .bool false], row 5 1 (.slice A92 n93 c94) n93 (nums .u8 ss2124), row 51 2 (.slice none 0 0) 0 (chV ([] : List Ch)), chd .u8 ([] : List Ch)] [vw none (bls ([] : List Bool)), row 51 2 (.slice (some ⟨b104, 0, none⟩) 1 1) 1 (chV ([(2, A996, c997, zs98)] : List Ch)), row 5 1 (.slice A996 256 c997) 256 (nums .u8 zs98), vw none (nums .u8 ([] : List Int)), row 51 2 (.slice (some ⟨b75, 0, none⟩) 2 2) 2 (chV ([(0, A957, c958, zs59), (1, A967, c968, zs69)] : List Ch)), row 5 1 (.slice A967 256 c968) 256 (nums .u8 zs69), row 5 1 (.slice (some ⟨b65, 0, none⟩) 1 1) 1 (nums .u8 ([2] : List Int)), row 5 1 (.slice A957 256 c958) 256 (nums .u8 zs59), row 5 1 (.slice (some ⟨b55, 0, none⟩) 1 1) 1 (nums .u8 ([1] : List Int))] (wl_Read_spec w234 d21 A92 n93 c94 ss2124 none 0 0 ([] : List Ch) 0 false 1 hp126 (by assumption) (by assumption) (fun h => hp9 (by exact h)) (by assumption) (by assumption) (by rfl) (by omega) (by exact ChOK.nil _) (by exact WOK.nil _) (fun h => absurd h (by decide)) (by (refine ⟨?_, ?_⟩ <;> omega))) [5, 0, 0, 0, 0] ?_)
    rintro _ _ ⟨A9128, c9129, zs130, e131, rfl, rfl, hp132, hp133, hp134, hp135⟩
    first | (have hq136f := wread_ok hp132 (by omega) (by omega); obtain ⟨hq136a, hq136b, hq136c⟩ := hq136f) | (have hq136a := wread_no hp132 (by omega))
    refine RunR.sl hU [] 5 7 [0, 2, 4, 5, 6, 7] [(0, .bool false), (2, pt w234), (4, .int .i64 e78), (5, .int .i64 e106), (6, .slice A9128 zs130.length c9129), (7, .int .i64 e131)] 5 ?_
    refine RunR.nx ?_
    refine RunR.sl hU [] 3 3 [0, 2, 5, 6, 7, 43] [(0, .bool false), (2, pt w234), (5, .int .i64 e106), (6, .slice A9128 zs130.length c9129), (7, .int .i64 e131), (43, .bool (decide (e78 = 0)))] 3 ?_
    refine RunR.ev [0, 2, 5, 6, 7, 43] [(0, .bool false), (2, pt w234), (5, .int .i64 e106), (6, .slice A9128 zs130.length c9129), (7, .int .i64 e131), (43, .bool (decide (e78 = 0)))] ?_
    have hk137 : (e78 = 0) := by assumption
    refine RunR.enveq [(0, .bool false), (2, pt w234), (5, .int .i64 e106), (6, .slice A9128 zs130.length c9129), (7, .int .i64 e131), (43, .bool true)] (by rw [decide_eq_true hk137]; try rfl) ?_
    refine RunR.sl hU [] 4 7 [0, 2, 6, 7, 47] [(0, .bool false), (2, pt w234), (6, .slice A9128 zs130.length c9129), (7, .int .i64 e131), (47, .bool (decide (e106 = 1)))] 4 ?_
    refine RunR.ev [0, 2, 6, 7, 47] [(0, .bool false), (2, pt w234), (6, .slice A9128 zs130.length c9129), (7, .int .i64 e131), (47, .bool (decide (e106 = 1)))] ?_
    have hk138 : (e106 = 1) := by assumption
    refine RunR.enveq [(0, .bool false), (2, pt w234), (6, .slice A9128 zs130.length c9129), (7, .int .i64 e131), (47, .bool true)] (by rw [decide_eq_true hk138]; try rfl) ?_
    refine RunR.sl hU [] 4 11 [0, 2, 6, 51] [(0, .bool false), (2, pt w234), (6, .slice A9128 zs130.length c9129), (51, .bool (decide (e131 = 0)))] 4 ?_
    refine RunR.ev [0, 2, 6, 51] [(0, .bool false), (2, pt w234), (6, .slice A9128 zs130.length c9129), (51, .bool (decide (e131 = 0)))] ?_
    have hk139 : (e131 = 0) := by assumption
    refine RunR.enveq [(0, .bool false), (2, pt w234), (6, .slice A9128 zs130.length c9129), (51, .bool true)] (by rw [decide_eq_true hk139]; try rfl) ?_
    refine RunR.sl hU [] 5 16 [0, 2, 6, 56] [(0, .bool false), (2, pt w234), (6, .slice A9128 zs130.length c9129), (56, .bool (decide (((zs130.length : Nat) : Int) = 256)))] 5 ?_
    refine RunR.ev [0, 2, 6, 56] [(0, .bool false), (2, pt w234), (6, .slice A9128 zs130.length c9129), (56, .bool (decide (((zs130.length : Nat) : Int) = 256)))] ?_
    have hk140 : (((zs130.length : Nat) : Int) = 256) := by omega
    refine RunR.enveq [(0, .bool false), (2, pt w234), (6, .slice A9128 zs130.length c9129), (56, .bool true)] (by rw [decide_eq_true hk140]; try rfl) ?_
    refine RunR.sil hU [] 2 18 [0, 2, 56, 58] [(0, .bool false), (2, pt w234), (56, .bool true), (58, .pointer (elemAt A9128 0 1))] ((True) ∧ ((0 ≤ (0 : Int) ∧ (0 : Int) < ((zs130.length : Nat) : Int)) ∧ Option.isSome A9128 = true) ∧ True) rfl (by kernel_rfl) ⟨trivial, ⟨by omega, hp135 (by omega)⟩, trivial⟩ ?_
    refine RunR.st (some 59) (.load 5 (.tmp 58)) (Step.load_num hU 0 (row 5 1 (.slice A9128 zs130.length c9129) zs130.length (nums .u8 zs130)) A9128 0 .u8 zs130 rfl (by kernel_rfl) (by kernel_rfl) (tells_row _ _ _ _ _ _) (by kernel_rfl) (by omega) ?_)
    have hb141 : 0 ≤ zs130.getD ((0 : Int).toNat) 0 ∧ zs130.getD ((0 : Int).toNat) 0 < 256 := hp133.at_ _
    refine RunR.sl hU [] 3 22 [0, 2, 62] [(0, .bool false), (2, pt w234), (62, .bool (decide ((zs130.getD (0 : Int).toNat 0) = 2)))] 3 ?_
    refine RunR.ev [0, 2, 62] [(0, .bool false), (2, pt w234), (62, .bool (decide ((zs130.getD (0 : Int).toNat 0) = 2)))] ?_
    have hk142 : ((zs130.getD (0 : Int).toNat 0) = 2) := by exact awake_w (by assumption) (by assumption) (by assumption) (by assumption) (by omega) (by assumption)
    refine RunR.enveq [(0, .bool false), (2, pt w234), (62, .bool true)] (by rw [decide_eq_true hk142]; try rfl) ?_
    refine RunR.sl hU [] 1 23 [0, 62, 63] [(0, .bool false), (62, .bool true), (63, pt w234)] 1 ?_
    refine RunR.st (some 64) (.call { callee := .value (.func 29), args := #[.tmp 63], argTypes := #[32] }) (Step.cn 29 [pt w234] [blk w234 72 [pt d21], blk d21 70 [.slice A92 n93 c94, .slice none 0 0, .int .i64 0, .bool false]] [row 5 1 (.slice A9128 zs130.length c9129) zs130.length (nums .u8 zs130), row 5 1 (.slice A92 n93 c94) n93 (nums .u8 ss2124), row 51 2 (.slice none 0 0) 0 (chV ([] : List Ch)), chd .u8 ([] : List Ch), vw none (bls ([] : List Bool)), row 51 2 (.slice (some ⟨b104, 0, none⟩) 1 1) 1 (chV ([(2, A996, c997, zs98)] : List Ch)), row 5 1 (.slice A996 256 c997) 256 (nums .u8 zs98), vw none (nums .u8 ([] : List Int)), row 51 2 (.slice (some ⟨b75, 0, none⟩) 2 2) 2 (chV ([(0, A957, c958, zs59), (1, A967, c968, zs69)] : List Ch)), row 5 1 (.slice A967 256 c968) 256 (nums .u8 zs69), row 5 1 (.slice (some ⟨b65, 0, none⟩) 1 1) 1 (nums .u8 ([2] : List Int)), row 5 1 (.slice A957 256 c958) 256 (nums .u8 zs59), row 5 1 (.slice (some ⟨b55, 0, none⟩) 1 1) 1 (nums .u8 ([1] : List Int))] (wl_Blocks_spec w234 d21 A92 n93 c94 none 0 0 0 false (by assumption) (by assumption)) [1, 1] ?_)
    rintro _ _ ⟨rfl, rfl⟩
    refine RunR.sl hU [] 3 27 [0] [(0, .bool (decide ((((n93 : Nat) : Int) / 256 - 42) = 2)))] 3 ?_
    refine RunR.ev [0] [(0, .bool (decide ((((n93 : Nat) : Int) / 256 - 42) = 2)))] ?_
    have hk143 : ((((n93 : Nat) : Int) / 256 - 42) = 2) := by omega
    refine RunR.enveq [(0, .bool true)] (by rw [decide_eq_true hk143]; try rfl) ?_
    refine RunR.nn ?_
    refine RunC.ret ?_
    refine kret_r [.bool true] [] [] ⟨rfl, trivial⟩ (by kernel_rfl) rfl ⟨rfl, rfl⟩
end Go.Proofs.Ytaaplakahkgclaa.Y2
