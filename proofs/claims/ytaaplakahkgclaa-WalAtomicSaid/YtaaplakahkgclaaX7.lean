/- What these functions compute: a contract for each, walked through its code. -/
import Derived.Test.YtaaplakahkgclaaSLzk
import Derived.Test.YtaaplakahkgclaaBPure
import Derived.Test.YtaaplakahkgclaaProg
import Derived.Test.YtaaplakahkgclaaX1
import Derived.Test.YtaaplakahkgclaaX2
import Derived.Test.YtaaplakahkgclaaX3
import Derived.Test.YtaaplakahkgclaaX4
import Derived.Test.YtaaplakahkgclaaX5
import Derived.Test.YtaaplakahkgclaaX6
namespace Go.Proofs.Ytaaplakahkgclaa.X7
open Go Go.Proofs.Ytaaplakahkgclaa.SL Go.Proofs.Ytaaplakahkgclaa.SL.W Go.Proofs.Ytaaplakahkgclaa.SL.D Go.Proofs.Ytaaplakahkgclaa.X1 Go.Proofs.Ytaaplakahkgclaa.X2 Go.Proofs.Ytaaplakahkgclaa.X3 Go.Proofs.Ytaaplakahkgclaa.X4 Go.Proofs.Ytaaplakahkgclaa.X5 Go.Proofs.Ytaaplakahkgclaa.X6
set_option linter.unusedVariables false
set_option linter.unusedSimpArgs false
set_option maxRecDepth 100000
set_option maxHeartbeats 40000000
def U : Tab where
  und := [(3, .int .i64), (4, .bool), (5, .int .u8), (23, .slice 5), (28, .slice 51), (30, .pointer 70), (33, .int .i64), (50, .struct #[{ name := "Block", type := 3, offset := 0, embedded := false, tag := "", pkgPath := "", byteOffset := 0 }, { name := "Data", type := 23, offset := 1, embedded := false, tag := "", pkgPath := "", byteOffset := 8 }]), (51, .struct #[{ name := "Block", type := 3, offset := 0, embedded := false, tag := "", pkgPath := "", byteOffset := 0 }, { name := "Data", type := 23, offset := 1, embedded := false, tag := "", pkgPath := "", byteOffset := 8 }]), (69, .struct #[{ name := "safe", type := 23, offset := 0, embedded := false, tag := "", pkgPath := "orlop/disk", byteOffset := 0 }, { name := "wait", type := 28, offset := 1, embedded := false, tag := "", pkgPath := "orlop/disk", byteOffset := 24 }, { name := "left", type := 3, offset := 2, embedded := false, tag := "", pkgPath := "orlop/disk", byteOffset := 48 }, { name := "down", type := 4, offset := 3, embedded := false, tag := "", pkgPath := "orlop/disk", byteOffset := 56 }]), (70, .struct #[{ name := "safe", type := 23, offset := 0, embedded := false, tag := "", pkgPath := "orlop/disk", byteOffset := 0 }, { name := "wait", type := 28, offset := 1, embedded := false, tag := "", pkgPath := "orlop/disk", byteOffset := 24 }, { name := "left", type := 3, offset := 2, embedded := false, tag := "", pkgPath := "orlop/disk", byteOffset := 48 }, { name := "down", type := 4, offset := 3, embedded := false, tag := "", pkgPath := "orlop/disk", byteOffset := 56 }]), (71, .struct #[{ name := "d", type := 30, offset := 0, embedded := false, tag := "", pkgPath := "orlop/wal", byteOffset := 0 }]), (72, .struct #[{ name := "d", type := 30, offset := 0, embedded := false, tag := "", pkgPath := "orlop/wal", byteOffset := 0 }]), (75, .struct #[{ name := "d", type := 30, offset := 0, embedded := false, tag := "", pkgPath := "orlop/wal", byteOffset := 0 }, { name := "list", type := 28, offset := 1, embedded := false, tag := "", pkgPath := "orlop/wal", byteOffset := 8 }]), (76, .struct #[{ name := "d", type := 30, offset := 0, embedded := false, tag := "", pkgPath := "orlop/wal", byteOffset := 0 }, { name := "list", type := 28, offset := 1, embedded := false, tag := "", pkgPath := "orlop/wal", byteOffset := 8 }]), (96, .int .u32)]
  fld := [((50, 0), (0, 3)), ((50, 1), (1, 23)), ((51, 0), (0, 3)), ((51, 1), (1, 23)), ((69, 0), (0, 23)), ((69, 1), (1, 28)), ((69, 2), (2, 3)), ((69, 3), (3, 4)), ((70, 0), (0, 23)), ((70, 1), (1, 28)), ((70, 2), (2, 3)), ((70, 3), (3, 4)), ((71, 0), (0, 30)), ((72, 0), (0, 30)), ((75, 0), (0, 30)), ((75, 1), (1, 28)), ((76, 0), (0, 30)), ((76, 1), (1, 28))]
  sz := [(3, 1), (4, 1), (5, 1), (23, 1), (28, 1), (30, 1), (33, 1), (50, 2), (51, 2), (69, 4), (70, 4), (71, 1), (72, 1), (75, 2), (76, 2), (96, 1)]
  ti := [(3, (1, 8, .int .i64 0)), (4, (1, 1, .bool false)), (5, (1, 1, .int .u8 0)), (23, (1, 24, .slice none 0 0)), (28, (1, 24, .slice none 0 0)), (30, (1, 8, .pointer none)), (33, (1, 8, .int .i64 0)), (50, (2, 32, .agg #[.int .i64 0, .slice none 0 0])), (51, (2, 32, .agg #[.int .i64 0, .slice none 0 0])), (69, (4, 64, .agg #[.slice none 0 0, .slice none 0 0, .int .i64 0, .bool false])), (70, (4, 64, .agg #[.slice none 0 0, .slice none 0 0, .int .i64 0, .bool false])), (71, (1, 8, .agg #[.pointer none])), (72, (1, 8, .agg #[.pointer none])), (75, (2, 32, .agg #[.pointer none, .slice none 0 0])), (76, (2, 32, .agg #[.pointer none, .slice none 0 0])), (96, (1, 4, .int .u32 0))]
  bld := [(50, [(0, 1), (1, 1)]), (51, [(0, 1), (1, 1)]), (69, [(0, 1), (1, 1), (2, 1), (3, 1)]), (70, [(0, 1), (1, 1), (2, 1), (3, 1)]), (71, [(0, 1)]), (72, [(0, 1)]), (75, [(0, 1), (1, 1)]), (76, [(0, 1), (1, 1)])]

theorem hU : U.OK Try.prog where
  und := by
    intro p hp
    simp only [U, List.mem_cons, List.not_mem_nil, or_false] at hp
    rcases hp with rfl | rfl | rfl | rfl | rfl | rfl | rfl | rfl | rfl | rfl | rfl | rfl | rfl | rfl | rfl | rfl
    · exact Try.underlying3
    · exact Try.underlying4
    · exact Try.underlying5
    · exact Try.underlying23
    · exact Try.underlying28
    · exact Try.underlying30
    · exact Try.underlying33
    · exact Try.underlying50
    · exact Try.underlying51
    · exact Try.underlying69
    · exact Try.underlying70
    · exact Try.underlying71
    · exact Try.underlying72
    · exact Try.underlying75
    · exact Try.underlying76
    · exact Try.underlying96
  fld := by
    intro p hp
    simp only [U, List.mem_cons, List.not_mem_nil, or_false] at hp
    rcases hp with rfl | rfl | rfl | rfl | rfl | rfl | rfl | rfl | rfl | rfl | rfl | rfl | rfl | rfl | rfl | rfl | rfl | rfl
    · exact ⟨_, _, Try.underlying50, rfl, rfl, rfl, Try.prog.types[3]!, by kernel_rfl, by decide +kernel⟩
    · exact ⟨_, _, Try.underlying50, rfl, rfl, rfl, Try.prog.types[23]!, by kernel_rfl, by decide +kernel⟩
    · exact ⟨_, _, Try.underlying51, rfl, rfl, rfl, Try.prog.types[3]!, by kernel_rfl, by decide +kernel⟩
    · exact ⟨_, _, Try.underlying51, rfl, rfl, rfl, Try.prog.types[23]!, by kernel_rfl, by decide +kernel⟩
    · exact ⟨_, _, Try.underlying69, rfl, rfl, rfl, Try.prog.types[23]!, by kernel_rfl, by decide +kernel⟩
    · exact ⟨_, _, Try.underlying69, rfl, rfl, rfl, Try.prog.types[28]!, by kernel_rfl, by decide +kernel⟩
    · exact ⟨_, _, Try.underlying69, rfl, rfl, rfl, Try.prog.types[3]!, by kernel_rfl, by decide +kernel⟩
    · exact ⟨_, _, Try.underlying69, rfl, rfl, rfl, Try.prog.types[4]!, by kernel_rfl, by decide +kernel⟩
    · exact ⟨_, _, Try.underlying70, rfl, rfl, rfl, Try.prog.types[23]!, by kernel_rfl, by decide +kernel⟩
    · exact ⟨_, _, Try.underlying70, rfl, rfl, rfl, Try.prog.types[28]!, by kernel_rfl, by decide +kernel⟩
    · exact ⟨_, _, Try.underlying70, rfl, rfl, rfl, Try.prog.types[3]!, by kernel_rfl, by decide +kernel⟩
    · exact ⟨_, _, Try.underlying70, rfl, rfl, rfl, Try.prog.types[4]!, by kernel_rfl, by decide +kernel⟩
    · exact ⟨_, _, Try.underlying71, rfl, rfl, rfl, Try.prog.types[30]!, by kernel_rfl, by decide +kernel⟩
    · exact ⟨_, _, Try.underlying72, rfl, rfl, rfl, Try.prog.types[30]!, by kernel_rfl, by decide +kernel⟩
    · exact ⟨_, _, Try.underlying75, rfl, rfl, rfl, Try.prog.types[30]!, by kernel_rfl, by decide +kernel⟩
    · exact ⟨_, _, Try.underlying75, rfl, rfl, rfl, Try.prog.types[28]!, by kernel_rfl, by decide +kernel⟩
    · exact ⟨_, _, Try.underlying76, rfl, rfl, rfl, Try.prog.types[30]!, by kernel_rfl, by decide +kernel⟩
    · exact ⟨_, _, Try.underlying76, rfl, rfl, rfl, Try.prog.types[28]!, by kernel_rfl, by decide +kernel⟩
  sz := by
    intro p hp
    simp only [U, List.mem_cons, List.not_mem_nil, or_false] at hp
    rcases hp with rfl | rfl | rfl | rfl | rfl | rfl | rfl | rfl | rfl | rfl | rfl | rfl | rfl | rfl | rfl | rfl
    · exact ⟨Try.prog.types[3]!, by kernel_rfl, by kernel_rfl⟩
    · exact ⟨Try.prog.types[4]!, by kernel_rfl, by kernel_rfl⟩
    · exact ⟨Try.prog.types[5]!, by kernel_rfl, by kernel_rfl⟩
    · exact ⟨Try.prog.types[23]!, by kernel_rfl, by kernel_rfl⟩
    · exact ⟨Try.prog.types[28]!, by kernel_rfl, by kernel_rfl⟩
    · exact ⟨Try.prog.types[30]!, by kernel_rfl, by kernel_rfl⟩
    · exact ⟨Try.prog.types[33]!, by kernel_rfl, by kernel_rfl⟩
    · exact ⟨Try.prog.types[50]!, by kernel_rfl, by kernel_rfl⟩
    · exact ⟨Try.prog.types[51]!, by kernel_rfl, by kernel_rfl⟩
    · exact ⟨Try.prog.types[69]!, by kernel_rfl, by kernel_rfl⟩
    · exact ⟨Try.prog.types[70]!, by kernel_rfl, by kernel_rfl⟩
    · exact ⟨Try.prog.types[71]!, by kernel_rfl, by kernel_rfl⟩
    · exact ⟨Try.prog.types[72]!, by kernel_rfl, by kernel_rfl⟩
    · exact ⟨Try.prog.types[75]!, by kernel_rfl, by kernel_rfl⟩
    · exact ⟨Try.prog.types[76]!, by kernel_rfl, by kernel_rfl⟩
    · exact ⟨Try.prog.types[96]!, by kernel_rfl, by kernel_rfl⟩
  ti := by
    intro p hp
    simp only [U, List.mem_cons, List.not_mem_nil, or_false] at hp
    rcases hp with rfl | rfl | rfl | rfl | rfl | rfl | rfl | rfl | rfl | rfl | rfl | rfl | rfl | rfl | rfl | rfl
    · exact ⟨Try.prog.types[3]!, by kernel_rfl, by kernel_rfl, by kernel_rfl, by kernel_rfl⟩
    · exact ⟨Try.prog.types[4]!, by kernel_rfl, by kernel_rfl, by kernel_rfl, by kernel_rfl⟩
    · exact ⟨Try.prog.types[5]!, by kernel_rfl, by kernel_rfl, by kernel_rfl, by kernel_rfl⟩
    · exact ⟨Try.prog.types[23]!, by kernel_rfl, by kernel_rfl, by kernel_rfl, by kernel_rfl⟩
    · exact ⟨Try.prog.types[28]!, by kernel_rfl, by kernel_rfl, by kernel_rfl, by kernel_rfl⟩
    · exact ⟨Try.prog.types[30]!, by kernel_rfl, by kernel_rfl, by kernel_rfl, by kernel_rfl⟩
    · exact ⟨Try.prog.types[33]!, by kernel_rfl, by kernel_rfl, by kernel_rfl, by kernel_rfl⟩
    · exact ⟨Try.prog.types[50]!, by kernel_rfl, by kernel_rfl, by kernel_rfl, by kernel_rfl⟩
    · exact ⟨Try.prog.types[51]!, by kernel_rfl, by kernel_rfl, by kernel_rfl, by kernel_rfl⟩
    · exact ⟨Try.prog.types[69]!, by kernel_rfl, by kernel_rfl, by kernel_rfl, by kernel_rfl⟩
    · exact ⟨Try.prog.types[70]!, by kernel_rfl, by kernel_rfl, by kernel_rfl, by kernel_rfl⟩
    · exact ⟨Try.prog.types[71]!, by kernel_rfl, by kernel_rfl, by kernel_rfl, by kernel_rfl⟩
    · exact ⟨Try.prog.types[72]!, by kernel_rfl, by kernel_rfl, by kernel_rfl, by kernel_rfl⟩
    · exact ⟨Try.prog.types[75]!, by kernel_rfl, by kernel_rfl, by kernel_rfl, by kernel_rfl⟩
    · exact ⟨Try.prog.types[76]!, by kernel_rfl, by kernel_rfl, by kernel_rfl, by kernel_rfl⟩
    · exact ⟨Try.prog.types[96]!, by kernel_rfl, by kernel_rfl, by kernel_rfl, by kernel_rfl⟩
  bld := by
    intro p hp
    simp only [U, List.mem_cons, List.not_mem_nil, or_false] at hp
    rcases hp with rfl | rfl | rfl | rfl | rfl | rfl | rfl | rfl
    · exact ⟨_, Try.underlying50, by kernel_rfl⟩
    · exact ⟨_, Try.underlying51, by kernel_rfl⟩
    · exact ⟨_, Try.underlying69, by kernel_rfl⟩
    · exact ⟨_, Try.underlying70, by kernel_rfl⟩
    · exact ⟨_, Try.underlying71, by kernel_rfl⟩
    · exact ⟨_, Try.underlying72, by kernel_rfl⟩
    · exact ⟨_, Try.underlying75, by kernel_rfl⟩
    · exact ⟨_, Try.underlying76, by kernel_rfl⟩
  mixed := by kernel_rfl

theorem wl_head_spec (n : Nat) (La : Option Addr) (lm : Nat) (lc : Nat) (ls : List Ch) (hll : ls.length = lm) (hl4 : lm ≤ 40) (hlok : ChOK .u8 ls) (hbk : BOK n ls) (hnb : n ≤ 557056) :
    CallsS Try.prog 69 [.slice La lm lc] [vw La (chV ls), vws (chL ls)] (fun r D => ∃ (A9 : Option Addr) (c9 : Nat) (zs : List Int), r = .slice A9 zs.length c9 ∧ D = [row 5 1 (.slice A9 zs.length c9) zs.length (nums .u8 zs)] ∧ (zs = headL (dat ls)) ∧ (zs.length = 256) ∧ (In .u8 zs) ∧ (zs.length ≤ c9) ∧ (0 < zs.length → Option.isSome A9 = true)) := by
  refine CallsS.enter hU Try.f69 _ [.tmp 2] 31 Try.func69 rfl (by decide) rfl rfl (by kernel_rfl) fun w0 W => ?_
  refine RunC.know (p := 0 < ls.length * 2 → Option.isSome La = true) (fun _ _ w hs => vw_some hs 0 rfl (by exact chV_len _)) (fun hA1 => ?_)
  refine RunC.sr ?_
  refine RunR.sl hU [] 1 1 [0, 2] [(0, .slice La lm lc), (2, .slice none 0 0)] 1 ?_
  refine RunR.nx ?_
  refine RunR.st (some 6) (.buildSlice 23 4 #[(0, .const (.int .u8 79)), (1, .const (.int .u8 87)), (2, .const (.int .u8 65)), (3, .const (.int .u8 76))]) (Step.lit_nums hU 5 1 .u8 (.int .u8 0) ([79, 87, 65, 76] : List Int) rfl rfl (by kernel_rfl) rfl rfl (by kernel_rfl) (fun b2 => ?_))
  have hl3 : (([79, 87, 65, 76] : List Int)).length = 4 := rfl
  refine RunR.st (some 7) (.convert 23 23 (.tmp 6)) (Step.mark_bytes hU 5 0 4 4 b2 ([79, 87, 65, 76] : List Int) rfl rfl (by kernel_rfl) (by kernel_rfl) (by decide) (by kernel_rfl) ?_)
  refine RunR.sil hU [4] 3 5 [0, 2, 7, 10] [(0, .slice La lm lc), (2, .slice none 0 0), (7, .slice (some ⟨b2, 0, none⟩) 4 4), (10, .int .u32 ((lm : Nat) : Int))] ((True) ∧ (True) ∧ (0 ≤ ((lm : Nat) : Int) ∧ ((lm : Nat) : Int) < 4294967296) ∧ True) rfl (by kernel_rfl) ⟨trivial, trivial, (by omega), trivial⟩ ?_
  refine RunR.st (some 11) (.call { callee := .value (.func 86), args := #[.tmp 10], argTypes := #[96] }) (Step.cn 86 [.int .u32 ((lm : Nat) : Int)] [] [vw (some ⟨b2, 0, none⟩) (nums .u8 ([79, 87, 65, 76] : List Int)), vw La (chV ls), vws (chL ls)] (w_Put32_spec ((lm : Nat) : Int) (by (refine ⟨?_, ?_⟩ <;> omega))) [] ?_)
  rintro _ _ ⟨Aq4, cq5, zs6, rfl, rfl, hp7, hp8, hp9, hp10, hp11⟩
  refine RunR.st (some 12) (.call { callee := .builtin .append, args := #[.tmp 7, .tmp 11], argTypes := #[23, 23] }) (Step.append_vw hU 5 1 (.int .u8 0) .u8 1 0 (some ⟨b2, 0, none⟩) 4 4 ([79, 87, 65, 76] : List Int) Aq4 zs6.length cq5 (row 5 1 (.slice Aq4 zs6.length cq5) zs6.length (nums .u8 zs6)) zs6 rfl rfl rfl (by kernel_rfl) (by kernel_rfl) (by kernel_rfl) (by kernel_rfl) (tells_row _ _ _ _ _ _) (by rfl) (by rfl) (by simp only [List.length_cons, List.length_nil]; omega) (by omega) (by simp only [List.length_cons, List.length_nil]; omega) (by simp only [List.length_cons, List.length_nil]; omega) (by simp only [List.length_cons, List.length_nil]; omega) (by kernel_rfl) (fun Aq12 cq13 hc14 hA15 => ?_))
  have hl16 : (([79, 87, 65, 76] : List Int) ++ zs6).length = ([79, 87, 65, 76] : List Int).length + zs6.length := List.length_append
  refine RunR.sl hU [] 1 8 [0, 2, 3] [(0, .slice La lm lc), (2, .slice none 0 0), (3, .slice Aq12 ((([79, 87, 65, 76] : List Int) ++ zs6).length) cq13)] 1 ?_
  refine RunR.nn ?_
  refine RunC.seq ?_
  refine RunC.sr ?_
  refine RunR.sl hU [] 3 3 [2, 3, 13, 14, 15] [(2, .slice none 0 0), (3, .slice Aq12 ((([79, 87, 65, 76] : List Int) ++ zs6).length) cq13), (13, .slice La lm lc), (14, .int .i64 ((lm : Nat) : Int)), (15, .int .i64 0)] 3 ?_
  refine RunR.nn ?_
  refine RunC.block ?_
  refine RunC.env [2, 3, 13, 14, 15] [(2, .slice none 0 0), (3, .slice Aq12 ((([79, 87, 65, 76] : List Int) ++ zs6).length) cq13), (13, .slice La lm lc), (14, .int .i64 ((lm : Nat) : Int)), (15, .int .i64 0)] (by kernel_rfl) ?_
  refine RunC.only [0, 0, 0, 0, 0] [row 5 1 (.slice Aq12 ((([79, 87, 65, 76] : List Int) ++ zs6).length) cq13) ((([79, 87, 65, 76] : List Int) ++ zs6).length) (nums .u8 (([79, 87, 65, 76] : List Int) ++ zs6)), row 5 1 (.slice Aq4 zs6.length cq5) zs6.length (nums .u8 zs6), vw (some ⟨b2, 0, none⟩) (nums .u8 ([79, 87, 65, 76] : List Int)), vw La (chV ls), vws (chL ls)] (by kernel_rfl) ?_
  refine RunC.loop (σ := Nat) (fun n_ t_ D_ => ∃ (i : Int) (os : List Int) (A3 : Option Addr) (c3 : Nat), (0 ≤ i) ∧ (i ≤ (lm : Int)) ∧ (os = ([79, 87, 65, 76] ++ leB ((dat ls).length : Int) 4) ++ ((dat ls).take i.toNat).flatMap fun r => leB r.1 4) ∧ (os.length = 8 + 4 * i.toNat) ∧ (In .u8 os) ∧ (os.length ≤ c3) ∧ (0 < os.length → Option.isSome A3 = true) ∧ n_ = ((lm - i).toNat : Nat) ∧ t_ = [(2, .slice none 0 0), (3, .slice A3 os.length c3), (13, .slice La lm lc), (14, .int .i64 ((lm : Nat) : Int)), (15, .int .i64 i)] ∧ D_ = [row 5 1 (.slice A3 os.length c3) os.length (nums .u8 os), row 5 1 (.slice Aq4 zs6.length cq5) zs6.length (nums .u8 zs6), vw (some ⟨b2, 0, none⟩) (nums .u8 ([79, 87, 65, 76] : List Int)), vw La (chV ls), vws (chL ls)]) id _ ⟨0, (([79, 87, 65, 76] : List Int) ++ zs6), Aq12, cq13, (by omega), (by omega), (by simp only [hp7, dat_len, hll]; simp), (by omega), (by (repeat first | assumption | (simp only [fits]; omega) | with_reducible first | exact In.nil _ | apply In.append | apply In.cons)), (by assumption), (fun h => hA15 (by exact h)), rfl, rfl, rfl⟩ ?_
  rintro n_ _ _ ⟨i, os, A3, c3, hi, him, hos, hol, hios, hcos, hAos, rfl, rfl, rfl⟩
  refine RunC.sr ?_
  refine RunR.sl hU [] 1 1 [2, 3, 13, 14, 15, 16] [(2, .slice none 0 0), (3, .slice A3 os.length c3), (13, .slice La lm lc), (14, .int .i64 ((lm : Nat) : Int)), (15, .int .i64 i), (16, .bool (decide (i < ((lm : Nat) : Int))))] 1 ?_
  refine RunR.nn ?_
  refine RunC.seq ?_
  refine RunC.condp (i < ((lm : Nat) : Int)) (by kernel_rfl) (fun h17 => ?_) (fun h17 => ?_)
  · skip
    refine RunC.ks ?_
    refine RunC.seq ?_
    refine RunC.block ?_
    refine RunC.sr ?_
    refine RunR.sil hU [] 1 1 [2, 3, 13, 14, 15, 17] [(2, .slice none 0 0), (3, .slice A3 os.length c3), (13, .slice La lm lc), (14, .int .i64 ((lm : Nat) : Int)), (15, .int .i64 i), (17, .pointer (elemAt La i 2))] (((0 ≤ i ∧ i < ((lm : Nat) : Int)) ∧ Option.isSome La = true) ∧ True) rfl (by kernel_rfl) ⟨⟨by omega, hA1 (by omega)⟩, trivial⟩ ?_
    obtain ⟨k18, Ae19, ce20, xe21, hg22, hf23, hr24, hc25, hl26⟩ := ch_at (by assumption : ChOK .u8 ls) (i := (i).toNat) (by omega)
    have hf27 := hf23; simp only [fits] at hf27
    have hw28 := bok_at hbk hg22
    refine RunR.st (some 18) (.load 51 (.tmp 17)) (Step.load_of hU 3 (vw La (chV ls)) La i 2 (chV ls) (.agg #[.int .i64 k18, .slice Ae19 xe21.length ce20]) (by kernel_rfl) (by kernel_rfl) (tells_vw _ _) (loadv_ch (by kernel_rfl) (by kernel_rfl) hg22) (by kernel_rfl) (by rw [chV_len]; omega) ?_)
    refine RunR.st (some 5) (.alloc 51) (Step.al hU 2 32 (.agg #[.int .i64 0, .slice none 0 0]) (fun b29 => ?_))
    refine RunR.st none (.store 51 (.tmp 5) (.tmp 18)) (Step.store_blk hU 0 b29 0 51 [.int .i64 0, .slice none 0 0] (.agg #[.int .i64 k18, .slice Ae19 xe21.length ce20]) (by kernel_rfl) (by kernel_rfl) (by kernel_rfl) 2 rfl [.int .i64 k18, .slice Ae19 xe21.length ce20] (by kernel_rfl) rfl (by kernel_rfl) (by decide) ?_)
    refine RunR.nn ?_
    refine RunC.region ?_
    refine RunR.sl hU [] 2 2 [2, 3, 13, 14, 15, 19, 20] [(2, .slice none 0 0), (3, .slice A3 os.length c3), (13, .slice La lm lc), (14, .int .i64 ((lm : Nat) : Int)), (15, .int .i64 i), (19, .slice A3 os.length c3), (20, pt b29)] 2 ?_
    refine RunR.st (some 21) (.load 3 (.tmp 20)) (Step.load_blk hU 0 b29 (0) 51 [.int .i64 k18, .slice Ae19 xe21.length ce20] (.int .i64 k18) (by kernel_rfl) (by kernel_rfl) (by kernel_rfl) (by kernel_rfl) ?_)
    refine RunR.sil hU [3] 1 4 [2, 3, 13, 14, 15, 19, 22] [(2, .slice none 0 0), (3, .slice A3 os.length c3), (13, .slice La lm lc), (14, .int .i64 ((lm : Nat) : Int)), (15, .int .i64 i), (19, .slice A3 os.length c3), (22, .int .u32 k18)] ((0 ≤ k18 ∧ k18 < 4294967296) ∧ True) rfl (by kernel_rfl) ⟨(by omega), trivial⟩ ?_
    refine RunR.st (some 23) (.call { callee := .value (.func 86), args := #[.tmp 22], argTypes := #[96] }) (Step.cn 86 [.int .u32 k18] [] [blk b29 51 [.int .i64 k18, .slice Ae19 xe21.length ce20], row 5 1 (.slice A3 os.length c3) os.length (nums .u8 os), row 5 1 (.slice Aq4 zs6.length cq5) zs6.length (nums .u8 zs6), vw (some ⟨b2, 0, none⟩) (nums .u8 ([79, 87, 65, 76] : List Int)), vw La (chV ls), vws (chL ls)] (w_Put32_spec k18 (by (refine ⟨?_, ?_⟩ <;> omega))) [] ?_)
    rintro _ _ ⟨Aq30, cq31, zs32, rfl, rfl, hp33, hp34, hp35, hp36, hp37⟩
    refine RunR.st (some 24) (.call { callee := .builtin .append, args := #[.tmp 19, .tmp 23], argTypes := #[23, 23] }) (Step.append_nums hU 5 1 (.int .u8 0) .u8 2 0 A3 os.length c3 os Aq30 zs32.length cq31 (row 5 1 (.slice Aq30 zs32.length cq31) zs32.length (nums .u8 zs32)) zs32 rfl rfl rfl (by kernel_rfl) (by kernel_rfl) (by kernel_rfl) (by kernel_rfl) (tells_row _ _ _ _ _ _) (by rfl) (by rfl) (by omega) (by omega) (by kernel_rfl) (fun Aq38 cq39 hc40 hA41 => ?_))
    have hl42 : (os ++ zs32).length = os.length + zs32.length := List.length_append
    refine RunR.sl hU [] 1 7 [2, 3, 13, 14, 15] [(2, .slice none 0 0), (3, .slice Aq38 ((os ++ zs32).length) cq39), (13, .slice La lm lc), (14, .int .i64 ((lm : Nat) : Int)), (15, .int .i64 i)] 1 ?_
    refine RunR.dn ?_
    refine kblock_n ?_
    refine kseq_n ?_
    refine RunC.region ?_
    refine RunR.sil hU [0] 2 2 [2, 3, 13, 14, 15] [(2, .slice none 0 0), (3, .slice Aq38 ((os ++ zs32).length) cq39), (13, .slice La lm lc), (14, .int .i64 ((lm : Nat) : Int)), (15, .int .i64 (i + 1))] ((-9223372036854775808 ≤ (i + 1) ∧ (i + 1) < 9223372036854775808) ∧ (True) ∧ True) rfl (by kernel_rfl) ⟨(by omega), trivial, trivial⟩ ?_
    refine RunR.dn ?_
    refine kloop_n _ [2, 3, 13, 14, 15] [0, 2, 2, 2, 2] [(2, .slice none 0 0), (3, .slice Aq38 ((os ++ zs32).length) cq39), (13, .slice La lm lc), (14, .int .i64 ((lm : Nat) : Int)), (15, .int .i64 (i + 1))] [row 5 1 (.slice Aq38 ((os ++ zs32).length) cq39) ((os ++ zs32).length) (nums .u8 (os ++ zs32)), row 5 1 (.slice Aq4 zs6.length cq5) zs6.length (nums .u8 zs6), vw (some ⟨b2, 0, none⟩) (nums .u8 ([79, 87, 65, 76] : List Int)), vw La (chV ls), vws (chL ls)] (by kernel_rfl) (by kernel_rfl) ?_ ⟨(i + 1), (os ++ zs32), Aq38, cq39, (by omega), (by assumption), (by rw [hos, hp33, List.append_assoc, flat_take (dat_get (by assumption)), show (i + 1).toNat = i.toNat + 1 by omega]), (by rw [List.length_append]; omega), (by (repeat first | assumption | with_reducible apply In.append)), (by assumption), (fun h => hA41 (by exact h)), rfl, (by rfl), (by rfl)⟩
    show ((lm - (i + 1)).toNat : Nat) < ((lm - i).toNat : Nat)
    omega
  · skip
    refine RunC.exit ?_
    refine kseq_e ?_
    refine kloop_e ?_
    refine kblock_e ?_
    refine kseq_n ?_
    refine RunC.sr ?_
    refine RunR.sil hU [3] 4 4 [2, 26, 29] [(2, .slice none 0 0), (26, .slice A3 os.length c3), (29, .int .i64 (256 - ((os.length : Nat) : Int)))] ((True) ∧ (True) ∧ (True) ∧ (-9223372036854775808 ≤ (256 - ((os.length : Nat) : Int)) ∧ (256 - ((os.length : Nat) : Int)) < 9223372036854775808) ∧ True) rfl (by kernel_rfl) ⟨trivial, trivial, trivial, (by omega), trivial⟩ ?_
    refine RunR.st (some 30) (.call { callee := .builtin .append, args := #[.tmp 26, .tmp 29], argTypes := #[23, 3] }) (Step.append_zeros hU 5 1 .u8 .i64 .i64 0 A3 os.length c3 os (256 - ((os.length : Nat) : Int)) rfl rfl rfl (by kernel_rfl) (by kernel_rfl) (by kernel_rfl) (by rfl) (by omega) (by omega) (by omega) (by kernel_rfl) (fun Aq43 cq44 hc45 hA46 => ?_))
    have hl47 : (os ++ List.replicate ((256 - ((os.length : Nat) : Int)).toNat) (0 : Int)).length = os.length + (256 - ((os.length : Nat) : Int)).toNat := by rw [List.length_append, List.length_replicate]
    refine RunR.sl hU [] 1 6 [2] [(2, .slice Aq43 ((os ++ List.replicate ((256 - ((os.length : Nat) : Int)).toNat) (0 : Int)).length) cq44)] 1 ?_
    refine RunR.nn ?_
    refine RunC.ret ?_
    refine kret_r [.slice Aq43 ((os ++ List.replicate ((256 - ((os.length : Nat) : Int)).toNat) (0 : Int)).length) cq44] [0] [row 5 1 (.slice Aq43 ((os ++ List.replicate ((256 - ((os.length : Nat) : Int)).toNat) (0 : Int)).length) cq44) ((os ++ List.replicate ((256 - ((os.length : Nat) : Int)).toNat) (0 : Int)).length) (nums .u8 (os ++ List.replicate ((256 - ((os.length : Nat) : Int)).toNat) (0 : Int)))] ⟨rfl, trivial⟩ (by kernel_rfl) rfl ⟨Aq43, cq44, (os ++ List.replicate ((256 - ((os.length : Nat) : Int)).toNat) (0 : Int)), rfl, rfl, (by exact head_end hos (by rw [dat_len]; omega) (by rw [dat_len]; omega)), (by rw [List.length_append, List.length_replicate]; omega), (by (repeat first | assumption | with_reducible first | exact In.replicate _ _ | apply In.append)), (by assumption), (fun h => hA46 (by exact h))⟩

theorem wl_logged_spec (wj : Nat) (d : Nat) (A : Option Addr) (n : Nat) (c : Nat) (ss : List Int) (Wa : Option Addr) (m : Nat) (wc : Nat) (ws : List Ch) (lf : Int) (dn : Bool) (hss : In .u8 ss) (hnl : ss.length = n) (hnc : n ≤ c) (hAs : 0 < n → Option.isSome A = true) (hn6 : n % 256 = 0) (hnb : n ≤ 557056) (hml : ws.length = m) (hmb : m ≤ 900000) (hok : ChOK .u8 ws) (hwk : WOK n ws) (hWs : 0 < m → Option.isSome Wa = true) (hn43 : 256 * 43 ≤ n) :
    CallsS Try.prog 40 [pt wj] [blk wj 72 [pt d], blk d 70 [.slice A n c, .slice Wa m wc, .int .i64 lf, .bool dn], row 5 1 (.slice A n c) n (nums .u8 ss), row 51 2 (.slice Wa m wc) m (chV ws), chd .u8 ws] (fun r D => ∃ (La : Option Addr) (lm : Nat) (lc : Nat) (ls : List Ch), r = .slice La lm lc ∧ D = [row 51 2 (.slice La lm lc) lm (chV ls), chd .u8 ls, blk wj 72 [pt d], blk d 70 [.slice A n c, .slice Wa m wc, .int .i64 lf, .bool dn], row 5 1 (.slice A n c) n (nums .u8 ss), row 51 2 (.slice Wa m wc) m (chV ws), chd .u8 ws] ∧ (dat ls = logged n ss (dat ws)) ∧ (ls.length = lm) ∧ (lm ≤ 40) ∧ (ChOK .u8 ls) ∧ (BOK n ls) ∧ (0 < lm → Option.isSome La = true)) := by
  refine CallsS.enter hU Try.f40 _ [.tmp 2] 73 Try.func40 rfl (by decide) rfl rfl (by kernel_rfl) fun w0 W => ?_
  refine RunC.sr ?_
  refine RunR.sl hU [] 1 1 [0, 2] [(0, pt wj), (2, .slice none 0 0)] 1 ?_
  refine RunR.nx ?_
  refine RunR.sl hU [] 3 3 [0, 2, 14] [(0, pt wj), (2, .slice none 0 0), (14, pt wj)] 3 ?_
  refine RunR.st (some 15) (.load 30 (.tmp 14)) (Step.load_blk hU 0 wj (0) 72 [pt d] (pt d) (by kernel_rfl) (by kernel_rfl) (by kernel_rfl) (by kernel_rfl) ?_)
  refine RunR.st (some 16) (.call { callee := .value (.func 55), args := #[.tmp 15, .const (.int .i64 0)], argTypes := #[30, 3] }) (Step.cn 55 [pt d, .int .i64 0] [blk d 70 [.slice A n c, .slice Wa m wc, .int .i64 lf, .bool dn], row 5 1 (.slice A n c) n (nums .u8 ss), row 51 2 (.slice Wa m wc) m (chV ws), chd .u8 ws] [blk wj 72 [pt d]] (d_Read_spec d A n c ss Wa m wc ws lf dn 0 hss (by assumption) (by assumption) (fun h => hAs (by exact h)) (by assumption) (by assumption) (by assumption) (by omega) (by assumption) (by assumption) (fun h => hWs (by exact h)) (by (refine ⟨?_, ?_⟩ <;> omega))) [1, 1, 1, 1] ?_)
  rintro _ _ ⟨A91, c92, zs3, e4, rfl, rfl, hp5, hp6, hp7, hp8⟩
  obtain ⟨hq9a, hq9b, hq9c⟩ := read_ok hp5 (by omega) (by omega)
  refine RunR.sl hU [] 5 10 [0, 2, 3] [(0, pt wj), (2, .slice none 0 0), (3, .slice A91 zs3.length c92)] 5 ?_
  refine RunR.nx ?_
  refine RunR.sil hU [] 2 2 [0, 2, 3, 20] [(0, pt wj), (2, .slice none 0 0), (3, .slice A91 zs3.length c92), (20, .slice (subBase A91 4 c92 1) (zs3.length - 4) (c92 - 4))] ((True) ∧ (0 ≤ (4 : Int) ∧ (4 : Int) ≤ ((zs3.length : Nat) : Int)) ∧ True) rfl (by kernel_rfl) ⟨trivial, (by omega), trivial⟩ ?_
  obtain ⟨zs10, hz11⟩ : ∃ z : List Int, z = (zs3.drop 4).take (zs3.length - 4) := ⟨_, rfl⟩
  have hl12 : zs10.length = zs3.length - 4 := by rw [hz11, List.length_take, List.length_drop]; omega
  have hB14_t : Tells (row 5 1 (.slice A91 zs3.length c92) zs3.length (nums .u8 zs3)) (subBase A91 4 c92 1) (nums .u8 zs10) := by rw [hz11]; exact tells_sub_nums (tells_row _ _ _ _ _ _) _ _ _ (by omega) (by omega)
  have hA15 : 0 < zs10.length → Option.isSome (subBase A91 4 c92 1) = true := fun h => part_some (hp8 (by omega)) _ _ _
  refine RunR.ev [0, 2, 3, 20] [(0, pt wj), (2, .slice none 0 0), (3, .slice A91 zs3.length c92), (20, .slice (subBase A91 4 c92 1) (zs3.length - 4) (c92 - 4))] ?_
  refine RunR.enveq [(0, pt wj), (2, .slice none 0 0), (3, .slice A91 zs3.length c92), (20, .slice (subBase A91 4 c92 1) zs10.length (c92 - 4))] (by rw [hl12]) ?_
  have hr16 : In .u8 zs10 := by rw [hz11]; exact (hp6.drop _).take _
  refine RunR.st (some 21) (.call { callee := .value (.func 65), args := #[.tmp 20], argTypes := #[23] }) (Step.cl 65 [.slice (subBase A91 4 c92 1) zs10.length (c92 - 4)] [] [vw (subBase A91 4 c92 1) (nums .u8 zs10)] [row 5 1 (.slice A91 zs3.length c92) zs3.length (nums .u8 zs3), blk d 70 [.slice A n c, .slice Wa m wc, .int .i64 lf, .bool dn], row 5 1 (.slice A n c) n (nums .u8 ss), row 51 2 (.slice Wa m wc) m (chV ws), chd .u8 ws, blk wj 72 [pt d]] (w_Get32_spec (subBase A91 4 c92 1) (c92 - 4) zs10 zs10.length hr16 (by omega) (by rfl)) [] ((Lend.nil _).tells 0 (row 5 1 (.slice A91 zs3.length c92) zs3.length (nums .u8 zs3)) (subBase A91 4 c92 1) (nums .u8 zs10) (by kernel_rfl) (hB14_t)) ?_)
  rintro _ _ ⟨v17, rfl, rfl, hp18, hp19⟩
  refine RunR.sil hU [3] 2 5 [0, 2, 3, 5] [(0, pt wj), (2, .slice none 0 0), (3, .slice A91 zs3.length c92), (5, .int .i64 v17)] ((-9223372036854775808 ≤ v17 ∧ v17 < 9223372036854775808) ∧ (True) ∧ True) rfl (by kernel_rfl) ⟨(by omega), trivial, trivial⟩ ?_
  refine RunR.nn ?_
  refine RunC.seq ?_
  refine RunC.sr ?_
  refine RunR.sl hU [] 1 1 [0, 2, 3, 5, 23] [(0, pt wj), (2, .slice none 0 0), (3, .slice A91 zs3.length c92), (5, .int .i64 v17), (23, .slice A91 zs3.length c92)] 1 ?_
  refine RunR.st (some 24) (.buildSlice 23 4 #[(0, .const (.int .u8 79)), (1, .const (.int .u8 87)), (2, .const (.int .u8 65)), (3, .const (.int .u8 76))]) (Step.lit_nums hU 5 1 .u8 (.int .u8 0) ([79, 87, 65, 76] : List Int) rfl rfl (by kernel_rfl) rfl rfl (by kernel_rfl) (fun b20 => ?_))
  have hl21 : (([79, 87, 65, 76] : List Int)).length = 4 := rfl
  refine RunR.st (some 25) (.convert 23 23 (.tmp 24)) (Step.mark_bytes hU 5 0 4 4 b20 ([79, 87, 65, 76] : List Int) rfl rfl (by kernel_rfl) (by kernel_rfl) (by decide) (by kernel_rfl) ?_)
  refine RunR.st (some 26) (.call { callee := .value (.func 66), args := #[.tmp 23, .tmp 25], argTypes := #[23, 23] }) (Step.cl 66 [.slice A91 zs3.length c92, .slice (some ⟨b20, 0, none⟩) 4 4] [] [vw A91 (nums .u8 zs3), vw (some ⟨b20, 0, none⟩) (nums .u8 ([79, 87, 65, 76] : List Int))] [vw (some ⟨b20, 0, none⟩) (nums .u8 ([79, 87, 65, 76] : List Int)), row 5 1 (.slice A91 zs3.length c92) zs3.length (nums .u8 zs3), blk d 70 [.slice A n c, .slice Wa m wc, .int .i64 lf, .bool dn], row 5 1 (.slice A n c) n (nums .u8 ss), row 51 2 (.slice Wa m wc) m (chV ws), chd .u8 ws, blk wj 72 [pt d]] (b_HasPrefix_spec A91 c92 zs3 (some ⟨b20, 0, none⟩) 4 ([79, 87, 65, 76] : List Int) zs3.length 4 hp6 (by (repeat first | (simp only [fits]; omega) | with_reducible first | exact In.nil _ | apply In.cons)) (by assumption) (by rfl) (by rfl)) [] (((Lend.nil _).tells 0 (vw (some ⟨b20, 0, none⟩) (nums .u8 ([79, 87, 65, 76] : List Int))) (some ⟨b20, 0, none⟩) (nums .u8 ([79, 87, 65, 76] : List Int)) (by kernel_rfl) (tells_vw _ _)).tells 1 (row 5 1 (.slice A91 zs3.length c92) zs3.length (nums .u8 zs3)) A91 (nums .u8 zs3) (by kernel_rfl) (tells_row _ _ _ _ _ _)) ?_)
  rintro _ _ ⟨rfl, rfl⟩
  refine RunR.sl hU [] 2 6 [0, 2, 3, 5, 28] [(0, pt wj), (2, .slice none 0 0), (3, .slice A91 zs3.length c92), (5, .int .i64 v17), (28, .bool (!decide (zs3.take ([79, 87, 65, 76] : List Int).length = ([79, 87, 65, 76] : List Int))))] 2 ?_
  refine RunR.ev [0, 2, 3, 5, 28] [(0, pt wj), (2, .slice none 0 0), (3, .slice A91 zs3.length c92), (5, .int .i64 v17), (28, .bool (!decide (zs3.take ([79, 87, 65, 76] : List Int).length = ([79, 87, 65, 76] : List Int))))] ?_
  by_cases h22 : zs3.take ([79, 87, 65, 76] : List Int).length = ([79, 87, 65, 76] : List Int)
  · skip
    refine RunR.enveq [(0, pt wj), (2, .slice none 0 0), (3, .slice A91 zs3.length c92), (5, .int .i64 v17), (28, .bool false)] (by rw [decide_eq_true h22]; try rfl) ?_
    refine RunR.sl hU [] 4 10 [0, 2, 3, 5, 32] [(0, pt wj), (2, .slice none 0 0), (3, .slice A91 zs3.length c92), (5, .int .i64 v17), (32, .bool (decide (v17 < 1)))] 4 ?_
    refine RunR.ev [0, 2, 3, 5, 32] [(0, pt wj), (2, .slice none 0 0), (3, .slice A91 zs3.length c92), (5, .int .i64 v17), (32, .bool (decide (v17 < 1)))] ?_
    by_cases h23 : v17 < 1
    · skip
      refine RunR.enveq [(0, pt wj), (2, .slice none 0 0), (3, .slice A91 zs3.length c92), (5, .int .i64 v17), (32, .bool true)] (by rw [decide_eq_true h23]; try rfl) ?_
      refine RunR.sl hU [] 3 13 [0, 2, 3, 5, 35] [(0, pt wj), (2, .slice none 0 0), (3, .slice A91 zs3.length c92), (5, .int .i64 v17), (35, .bool true)] 1 ?_
      refine RunR.nn ?_
      refine RunC.cond (b := true) (by kernel_rfl) (fun _ => ?_) (fun h => by cases h)
      refine RunC.sr ?_
      refine RunR.sl hU [] 1 1 [0, 2, 3, 5] [(0, pt wj), (2, .slice none 0 0), (3, .slice A91 zs3.length c92), (5, .int .i64 v17)] 1 ?_
      refine RunR.nn ?_
      refine RunC.ret ?_
      refine kseq_r ?_
      refine kret_rt ([chd .u8 ([] : List Ch), row 51 2 (.slice none 0 0) 0 (chV ([] : List Ch)), vw (some ⟨b20, 0, none⟩) (nums .u8 ([79, 87, 65, 76] : List Int)), row 5 1 (.slice A91 zs3.length c92) zs3.length (nums .u8 zs3), blk d 70 [.slice A n c, .slice Wa m wc, .int .i64 lf, .bool dn], row 5 1 (.slice A n c) n (nums .u8 ss), row 51 2 (.slice Wa m wc) m (chV ws), chd .u8 ws, blk wj 72 [pt d]]) (fun w0 W w hs => ((hs).nil_row 51 2).chd0 .u8) [.slice none 0 0] [1, 0, 6, 2, 2, 2, 2] [row 51 2 (.slice none 0 0) 0 (chV ([] : List Ch)), chd .u8 ([] : List Ch), blk wj 72 [pt d], blk d 70 [.slice A n c, .slice Wa m wc, .int .i64 lf, .bool dn], row 5 1 (.slice A n c) n (nums .u8 ss), row 51 2 (.slice Wa m wc) m (chV ws), chd .u8 ws] ⟨rfl, trivial⟩ (by kernel_rfl) rfl ⟨none, 0, 0, ([] : List Ch), rfl, rfl, (by exact logged_few (by assumption) (by assumption) (by assumption) (by omega) (by omega)), (by rfl), (by omega), (by exact ChOK.nil _), (by exact BOK.nil _), (by intro h; omega)⟩
    · skip
      refine RunR.enveq [(0, pt wj), (2, .slice none 0 0), (3, .slice A91 zs3.length c92), (5, .int .i64 v17), (32, .bool false)] (by rw [decide_eq_false h23]; try rfl) ?_
      refine RunR.sl hU [] 3 13 [0, 2, 3, 5, 35] [(0, pt wj), (2, .slice none 0 0), (3, .slice A91 zs3.length c92), (5, .int .i64 v17), (35, .bool (decide (v17 > 40)))] 3 ?_
      refine RunR.nn ?_
      refine RunC.condp (v17 > 40) (by kernel_rfl) (fun h24 => ?_) (fun h24 => ?_)
      · skip
        refine RunC.sr ?_
        refine RunR.sl hU [] 1 1 [0, 2, 3, 5] [(0, pt wj), (2, .slice none 0 0), (3, .slice A91 zs3.length c92), (5, .int .i64 v17)] 1 ?_
        refine RunR.nn ?_
        refine RunC.ret ?_
        refine kseq_r ?_
        refine kret_rt ([chd .u8 ([] : List Ch), row 51 2 (.slice none 0 0) 0 (chV ([] : List Ch)), vw (some ⟨b20, 0, none⟩) (nums .u8 ([79, 87, 65, 76] : List Int)), row 5 1 (.slice A91 zs3.length c92) zs3.length (nums .u8 zs3), blk d 70 [.slice A n c, .slice Wa m wc, .int .i64 lf, .bool dn], row 5 1 (.slice A n c) n (nums .u8 ss), row 51 2 (.slice Wa m wc) m (chV ws), chd .u8 ws, blk wj 72 [pt d]]) (fun w0 W w hs => ((hs).nil_row 51 2).chd0 .u8) [.slice none 0 0] [1, 0, 6, 2, 2, 2, 2] [row 51 2 (.slice none 0 0) 0 (chV ([] : List Ch)), chd .u8 ([] : List Ch), blk wj 72 [pt d], blk d 70 [.slice A n c, .slice Wa m wc, .int .i64 lf, .bool dn], row 5 1 (.slice A n c) n (nums .u8 ss), row 51 2 (.slice Wa m wc) m (chV ws), chd .u8 ws] ⟨rfl, trivial⟩ (by kernel_rfl) rfl ⟨none, 0, 0, ([] : List Ch), rfl, rfl, (by exact logged_few (by assumption) (by assumption) (by assumption) (by omega) (by omega)), (by rfl), (by omega), (by exact ChOK.nil _), (by exact BOK.nil _), (by intro h; omega)⟩
      · skip
        refine RunC.ksr ?_
        refine RunR.sl hU [] 1 1 [0, 2, 3, 5, 6] [(0, pt wj), (2, .slice none 0 0), (3, .slice A91 zs3.length c92), (5, .int .i64 v17), (6, .slice none 0 0)] 1 ?_
        refine RunR.nn ?_
        refine RunC.seq ?_
        refine RunC.sr ?_
        refine RunR.sl hU [] 2 2 [0, 2, 3, 6, 36, 37] [(0, pt wj), (2, .slice none 0 0), (3, .slice A91 zs3.length c92), (6, .slice none 0 0), (36, .int .i64 v17), (37, .int .i64 0)] 2 ?_
        refine RunR.nn ?_
        refine RunC.block ?_
        refine RunC.turn ([row 51 2 (.slice none 0 0) 0 (chV ([] : List Ch)), vw (some ⟨b20, 0, none⟩) (nums .u8 ([79, 87, 65, 76] : List Int)), row 5 1 (.slice A91 zs3.length c92) zs3.length (nums .u8 zs3), blk d 70 [.slice A n c, .slice Wa m wc, .int .i64 lf, .bool dn], row 5 1 (.slice A n c) n (nums .u8 ss), row 51 2 (.slice Wa m wc) m (chV ws), chd .u8 ws, blk wj 72 [pt d]]) (fun _ _ w hs => hs.nil_row 51 2) ?_
        refine RunC.turn ([chd .u8 ([] : List Ch), row 51 2 (.slice none 0 0) 0 (chV ([] : List Ch)), vw (some ⟨b20, 0, none⟩) (nums .u8 ([79, 87, 65, 76] : List Int)), row 5 1 (.slice A91 zs3.length c92) zs3.length (nums .u8 zs3), blk d 70 [.slice A n c, .slice Wa m wc, .int .i64 lf, .bool dn], row 5 1 (.slice A n c) n (nums .u8 ss), row 51 2 (.slice Wa m wc) m (chV ws), chd .u8 ws, blk wj 72 [pt d]]) (fun _ _ w hs => hs.chd0 .u8) ?_
        refine RunC.env [0, 3, 6, 36, 37] [(0, pt wj), (3, .slice A91 zs3.length c92), (6, .slice none 0 0), (36, .int .i64 v17), (37, .int .i64 0)] (by kernel_rfl) ?_
        refine RunC.only [1, 0, 0, 0, 0, 0, 0, 0, 0] [row 51 2 (.slice none 0 0) 0 (chV ([] : List Ch)), chd .u8 ([] : List Ch), vw (some ⟨b20, 0, none⟩) (nums .u8 ([79, 87, 65, 76] : List Int)), row 5 1 (.slice A91 zs3.length c92) zs3.length (nums .u8 zs3), blk d 70 [.slice A n c, .slice Wa m wc, .int .i64 lf, .bool dn], row 5 1 (.slice A n c) n (nums .u8 ss), row 51 2 (.slice Wa m wc) m (chV ws), chd .u8 ws, blk wj 72 [pt d]] (by kernel_rfl) ?_
        refine RunC.loop (σ := Nat) (fun n_ t_ D_ => ∃ (i : Int) (l2 : List Ch) (L2 : Option Addr) (m3 : Nat) (c3 : Nat), (0 ≤ i) ∧ (i ≤ v17) ∧ (dat l2 = entries ss (dat ws) i.toNat) ∧ (l2.length = m3) ∧ ((m3 : Int) = i) ∧ (ChOK .u8 l2) ∧ (BOK n l2) ∧ (0 < m3 → Option.isSome L2 = true) ∧ n_ = ((v17 - i).toNat : Nat) ∧ t_ = [(0, pt wj), (3, .slice A91 zs3.length c92), (6, .slice L2 m3 c3), (36, .int .i64 v17), (37, .int .i64 i)] ∧ D_ = [row 51 2 (.slice L2 m3 c3) m3 (chV l2), chd .u8 l2, vw (some ⟨b20, 0, none⟩) (nums .u8 ([79, 87, 65, 76] : List Int)), row 5 1 (.slice A91 zs3.length c92) zs3.length (nums .u8 zs3), blk d 70 [.slice A n c, .slice Wa m wc, .int .i64 lf, .bool dn], row 5 1 (.slice A n c) n (nums .u8 ss), row 51 2 (.slice Wa m wc) m (chV ws), chd .u8 ws, blk wj 72 [pt d]]) id _ ⟨0, ([] : List Ch), none, 0, 0, (by omega), (by omega), (by rfl), (by rfl), (by omega), (by exact ChOK.nil _), (by exact BOK.nil _), (by intro h; omega), rfl, rfl, rfl⟩ ?_
        rintro n_ _ _ ⟨i, l2, L2, m3, c3, hi, hik, hl2, hl2l, hm3, hok2, hbk2, hL2, rfl, rfl, rfl⟩
        refine RunC.sr ?_
        refine RunR.sl hU [] 1 1 [0, 3, 6, 36, 37, 38] [(0, pt wj), (3, .slice A91 zs3.length c92), (6, .slice L2 m3 c3), (36, .int .i64 v17), (37, .int .i64 i), (38, .bool (decide (i < v17)))] 1 ?_
        refine RunR.nn ?_
        refine RunC.seq ?_
        refine RunC.condp (i < v17) (by kernel_rfl) (fun h25 => ?_) (fun h25 => ?_)
        · skip
          refine RunC.ks ?_
          refine RunC.seq ?_
          refine RunC.block ?_
          refine RunC.sr ?_
          refine RunR.sl hU [] 2 2 [0, 3, 6, 7, 36, 37] [(0, pt wj), (3, .slice A91 zs3.length c92), (6, .slice L2 m3 c3), (7, .int .i64 i), (36, .int .i64 v17), (37, .int .i64 i)] 2 ?_
          refine RunR.nx ?_
          refine RunR.sil hU [2, 3] 5 5 [0, 3, 6, 7, 36, 37, 44] [(0, pt wj), (3, .slice A91 zs3.length c92), (6, .slice L2 m3 c3), (7, .int .i64 i), (36, .int .i64 v17), (37, .int .i64 i), (44, .slice (subBase A91 ((8 + (4 * i)).toNat) c92 1) (zs3.length - ((8 + (4 * i)).toNat)) (c92 - ((8 + (4 * i)).toNat)))] ((True) ∧ (True) ∧ (-9223372036854775808 ≤ (4 * i) ∧ (4 * i) < 9223372036854775808) ∧ (-9223372036854775808 ≤ (8 + (4 * i)) ∧ (8 + (4 * i)) < 9223372036854775808) ∧ (0 ≤ (8 + (4 * i)) ∧ (8 + (4 * i)) ≤ ((zs3.length : Nat) : Int)) ∧ True) rfl (by kernel_rfl) ⟨trivial, trivial, (by omega), (by omega), (by omega), trivial⟩ ?_
          obtain ⟨zs26, hz27⟩ : ∃ z : List Int, z = (zs3.drop ((8 + (4 * i)).toNat)).take (zs3.length - ((8 + (4 * i)).toNat)) := ⟨_, rfl⟩
          have hl28 : zs26.length = zs3.length - ((8 + (4 * i)).toNat) := by rw [hz27, List.length_take, List.length_drop]; omega
          have hB30_t : Tells (row 5 1 (.slice A91 zs3.length c92) zs3.length (nums .u8 zs3)) (subBase A91 ((8 + (4 * i)).toNat) c92 1) (nums .u8 zs26) := by rw [hz27]; exact tells_sub_nums (tells_row _ _ _ _ _ _) _ _ _ (by omega) (by omega)
          have hA31 : 0 < zs26.length → Option.isSome (subBase A91 ((8 + (4 * i)).toNat) c92 1) = true := fun h => part_some (hp8 (by omega)) _ _ _
          refine RunR.ev [0, 3, 6, 7, 36, 37, 44] [(0, pt wj), (3, .slice A91 zs3.length c92), (6, .slice L2 m3 c3), (7, .int .i64 i), (36, .int .i64 v17), (37, .int .i64 i), (44, .slice (subBase A91 ((8 + (4 * i)).toNat) c92 1) (zs3.length - ((8 + (4 * i)).toNat)) (c92 - ((8 + (4 * i)).toNat)))] ?_
          refine RunR.enveq [(0, pt wj), (3, .slice A91 zs3.length c92), (6, .slice L2 m3 c3), (7, .int .i64 i), (36, .int .i64 v17), (37, .int .i64 i), (44, .slice (subBase A91 ((8 + (4 * i)).toNat) c92 1) zs26.length (c92 - ((8 + (4 * i)).toNat)))] (by rw [hl28]) ?_
          have hr32 : In .u8 zs26 := by rw [hz27]; exact (hp6.drop _).take _
          refine RunR.st (some 45) (.call { callee := .value (.func 65), args := #[.tmp 44], argTypes := #[23] }) (Step.cl 65 [.slice (subBase A91 ((8 + (4 * i)).toNat) c92 1) zs26.length (c92 - ((8 + (4 * i)).toNat))] [] [vw (subBase A91 ((8 + (4 * i)).toNat) c92 1) (nums .u8 zs26)] [row 51 2 (.slice L2 m3 c3) m3 (chV l2), chd .u8 l2, vw (some ⟨b20, 0, none⟩) (nums .u8 ([79, 87, 65, 76] : List Int)), row 5 1 (.slice A91 zs3.length c92) zs3.length (nums .u8 zs3), blk d 70 [.slice A n c, .slice Wa m wc, .int .i64 lf, .bool dn], row 5 1 (.slice A n c) n (nums .u8 ss), row 51 2 (.slice Wa m wc) m (chV ws), chd .u8 ws, blk wj 72 [pt d]] (w_Get32_spec (subBase A91 ((8 + (4 * i)).toNat) c92 1) (c92 - ((8 + (4 * i)).toNat)) zs26 zs26.length hr32 (by omega) (by rfl)) [] ((Lend.nil _).tells 3 (row 5 1 (.slice A91 zs3.length c92) zs3.length (nums .u8 zs3)) (subBase A91 ((8 + (4 * i)).toNat) c92 1) (nums .u8 zs26) (by kernel_rfl) (hB30_t)) ?_)
          rintro _ _ ⟨v33, rfl, rfl, hp34, hp35⟩
          refine RunR.sil hU [6] 2 8 [0, 3, 6, 7, 8, 36, 37] [(0, pt wj), (3, .slice A91 zs3.length c92), (6, .slice L2 m3 c3), (7, .int .i64 i), (8, .int .i64 v33), (36, .int .i64 v17), (37, .int .i64 i)] ((-9223372036854775808 ≤ v33 ∧ v33 < 9223372036854775808) ∧ (True) ∧ True) rfl (by kernel_rfl) ⟨(by omega), trivial, trivial⟩ ?_
          refine RunR.nx ?_
          refine RunR.sl hU [] 3 3 [0, 3, 6, 7, 8, 36, 37, 50] [(0, pt wj), (3, .slice A91 zs3.length c92), (6, .slice L2 m3 c3), (7, .int .i64 i), (8, .int .i64 v33), (36, .int .i64 v17), (37, .int .i64 i), (50, pt wj)] 3 ?_
          refine RunR.st (some 51) (.load 30 (.tmp 50)) (Step.load_blk hU 8 wj (0) 72 [pt d] (pt d) (by kernel_rfl) (by kernel_rfl) (by kernel_rfl) (by kernel_rfl) ?_)
          refine RunR.sil hU [5] 2 6 [0, 3, 6, 8, 36, 37, 51, 53] [(0, pt wj), (3, .slice A91 zs3.length c92), (6, .slice L2 m3 c3), (8, .int .i64 v33), (36, .int .i64 v17), (37, .int .i64 i), (51, pt d), (53, .int .i64 (1 + i))] ((True) ∧ (-9223372036854775808 ≤ (1 + i) ∧ (1 + i) < 9223372036854775808) ∧ True) rfl (by kernel_rfl) ⟨trivial, (by omega), trivial⟩ ?_
          refine RunR.st (some 54) (.call { callee := .value (.func 55), args := #[.tmp 51, .tmp 53], argTypes := #[30, 3] }) (Step.cn 55 [pt d, .int .i64 (1 + i)] [blk d 70 [.slice A n c, .slice Wa m wc, .int .i64 lf, .bool dn], row 5 1 (.slice A n c) n (nums .u8 ss), row 51 2 (.slice Wa m wc) m (chV ws), chd .u8 ws] [row 51 2 (.slice L2 m3 c3) m3 (chV l2), chd .u8 l2, vw (some ⟨b20, 0, none⟩) (nums .u8 ([79, 87, 65, 76] : List Int)), row 5 1 (.slice A91 zs3.length c92) zs3.length (nums .u8 zs3), blk wj 72 [pt d]] (d_Read_spec d A n c ss Wa m wc ws lf dn (1 + i) hss (by assumption) (by assumption) (fun h => hAs (by exact h)) (by assumption) (by assumption) (by assumption) (by omega) (by assumption) (by assumption) (fun h => hWs (by exact h)) (by (refine ⟨?_, ?_⟩ <;> omega))) [4, 4, 4, 4] ?_)
          rintro _ _ ⟨A936, c937, zs38, e39, rfl, rfl, hp40, hp41, hp42, hp43⟩
          obtain ⟨hq44a, hq44b, hq44c⟩ := read_ok hp40 (by omega) (by omega)
          refine RunR.sl hU [] 5 12 [0, 3, 6, 8, 9, 10, 36, 37] [(0, pt wj), (3, .slice A91 zs3.length c92), (6, .slice L2 m3 c3), (8, .int .i64 v33), (9, .slice A936 zs38.length c937), (10, .int .i64 e39), (36, .int .i64 v17), (37, .int .i64 i)] 5 ?_
          refine RunR.nn ?_
          refine RunC.seq ?_
          refine RunC.sr ?_
          refine RunR.sl hU [] 3 3 [0, 3, 6, 8, 9, 36, 37, 59] [(0, pt wj), (3, .slice A91 zs3.length c92), (6, .slice L2 m3 c3), (8, .int .i64 v33), (9, .slice A936 zs38.length c937), (36, .int .i64 v17), (37, .int .i64 i), (59, .bool (!decide (e39 = 0)))] 3 ?_
          refine RunR.ev [0, 3, 6, 8, 9, 36, 37, 59] [(0, pt wj), (3, .slice A91 zs3.length c92), (6, .slice L2 m3 c3), (8, .int .i64 v33), (9, .slice A936 zs38.length c937), (36, .int .i64 v17), (37, .int .i64 i), (59, .bool (!decide (e39 = 0)))] ?_
          have hk45 : (e39 = 0) := by assumption
          refine RunR.enveq [(0, pt wj), (3, .slice A91 zs3.length c92), (6, .slice L2 m3 c3), (8, .int .i64 v33), (9, .slice A936 zs38.length c937), (36, .int .i64 v17), (37, .int .i64 i), (59, .bool false)] (by rw [decide_eq_true hk45]; try rfl) ?_
          refine RunR.sl hU [] 2 5 [0, 3, 6, 8, 9, 36, 37, 59, 60, 61] [(0, pt wj), (3, .slice A91 zs3.length c92), (6, .slice L2 m3 c3), (8, .int .i64 v33), (9, .slice A936 zs38.length c937), (36, .int .i64 v17), (37, .int .i64 i), (59, .bool false), (60, pt wj), (61, .int .i64 v33)] 2 ?_
          refine RunR.st (some 62) (.call { callee := .value (.func 46), args := #[.tmp 60, .tmp 61], argTypes := #[32, 3] }) (Step.cn 46 [pt wj, .int .i64 v33] [blk wj 72 [pt d], blk d 70 [.slice A n c, .slice Wa m wc, .int .i64 lf, .bool dn]] [row 5 1 (.slice A936 zs38.length c937) zs38.length (nums .u8 zs38), row 5 1 (.slice A n c) n (nums .u8 ss), row 51 2 (.slice Wa m wc) m (chV ws), chd .u8 ws, row 51 2 (.slice L2 m3 c3) m3 (chV l2), chd .u8 l2, vw (some ⟨b20, 0, none⟩) (nums .u8 ([79, 87, 65, 76] : List Int)), row 5 1 (.slice A91 zs3.length c92) zs3.length (nums .u8 zs3)] (wl_there_spec wj d A n c Wa m wc lf dn v33 (by assumption) (by assumption)) [9, 1] ?_)
          rintro _ _ ⟨rfl, rfl⟩
          refine RunR.sl hU [] 2 8 [0, 3, 6, 8, 9, 36, 37, 64] [(0, pt wj), (3, .slice A91 zs3.length c92), (6, .slice L2 m3 c3), (8, .int .i64 v33), (9, .slice A936 zs38.length c937), (36, .int .i64 v17), (37, .int .i64 i), (64, .bool (!decide (0 ≤ v33 ∧ 256 * (42 + v33) + 256 ≤ (n : Int))))] 2 ?_
          refine RunR.nn ?_
          refine RunC.condn (0 ≤ v33 ∧ 256 * (42 + v33) + 256 ≤ (n : Int)) (by kernel_rfl) (fun h46 => ?_) (fun h46 => ?_)
          · skip
            refine RunC.sr ?_
            refine RunR.sl hU [] 1 1 [0, 2, 3, 6, 8, 9, 36, 37] [(0, pt wj), (2, .slice none 0 0), (3, .slice A91 zs3.length c92), (6, .slice L2 m3 c3), (8, .int .i64 v33), (9, .slice A936 zs38.length c937), (36, .int .i64 v17), (37, .int .i64 i)] 1 ?_
            refine RunR.nn ?_
            refine RunC.ret ?_
            refine kseq_r ?_
            refine kblock_r ?_
            refine kseq_r ?_
            refine kloop_r ?_
            refine kblock_r ?_
            refine kseq_r ?_
            refine kret_rt ([chd .u8 ([] : List Ch), row 51 2 (.slice none 0 0) 0 (chV ([] : List Ch)), blk wj 72 [pt d], blk d 70 [.slice A n c, .slice Wa m wc, .int .i64 lf, .bool dn], row 5 1 (.slice A936 zs38.length c937) zs38.length (nums .u8 zs38), row 5 1 (.slice A n c) n (nums .u8 ss), row 51 2 (.slice Wa m wc) m (chV ws), chd .u8 ws, row 51 2 (.slice L2 m3 c3) m3 (chV l2), chd .u8 l2, vw (some ⟨b20, 0, none⟩) (nums .u8 ([79, 87, 65, 76] : List Int)), row 5 1 (.slice A91 zs3.length c92) zs3.length (nums .u8 zs3)]) (fun w0 W w hs => ((hs).nil_row 51 2).chd0 .u8) [.slice none 0 0] [1, 0, 0, 0, 1, 1, 1] [row 51 2 (.slice none 0 0) 0 (chV ([] : List Ch)), chd .u8 ([] : List Ch), blk wj 72 [pt d], blk d 70 [.slice A n c, .slice Wa m wc, .int .i64 lf, .bool dn], row 5 1 (.slice A n c) n (nums .u8 ss), row 51 2 (.slice Wa m wc) m (chV ws), chd .u8 ws] ⟨rfl, trivial⟩ (by kernel_rfl) rfl ⟨none, 0, 0, ([] : List Ch), rfl, rfl, (by exact logged_badI (by assumption) (by assumption) (by assumption) (by assumption) (by assumption) (by assumption) (by omega) (by omega) (by assumption) (by assumption) (by assumption) (by assumption) (by assumption)), (by rfl), (by omega), (by exact ChOK.nil _), (by exact BOK.nil _), (by intro h; omega)⟩
          · skip
            refine RunC.ks ?_
            refine RunC.region ?_
            refine RunR.sl hU [] 4 4 [0, 3, 6, 36, 37, 65, 68] [(0, pt wj), (3, .slice A91 zs3.length c92), (6, .slice L2 m3 c3), (36, .int .i64 v17), (37, .int .i64 i), (65, .slice L2 m3 c3), (68, .agg #[.int .i64 v33, .slice A936 zs38.length c937])] 4 ?_
            refine RunR.st (some 69) (.buildSlice 28 1 #[(0, .tmp 68)]) (Step.lit_pair hU 51 32 (.agg #[.int .i64 0, .slice none 0 0]) (.int .i64 v33) (.slice A936 zs38.length c937) (by kernel_rfl) (by kernel_rfl) (by kernel_rfl) rfl rfl (by kernel_rfl) (fun b47 => ?_))
            refine RunR.turn ([row 51 2 (.slice (some ⟨b47, 0, none⟩) 1 1) 1 (chV ([(v33, A936, c937, zs38)] : List Ch)), blk wj 72 [pt d], blk d 70 [.slice A n c, .slice Wa m wc, .int .i64 lf, .bool dn], row 5 1 (.slice A936 zs38.length c937) zs38.length (nums .u8 zs38), row 5 1 (.slice A n c) n (nums .u8 ss), row 51 2 (.slice Wa m wc) m (chV ws), chd .u8 ws, row 51 2 (.slice L2 m3 c3) m3 (chV l2), chd .u8 l2, vw (some ⟨b20, 0, none⟩) (nums .u8 ([79, 87, 65, 76] : List Int)), row 5 1 (.slice A91 zs3.length c92) zs3.length (nums .u8 zs3)]) (fun _ _ w hs => hs) ?_
            refine RunR.st (some 70) (.call { callee := .builtin .append, args := #[.tmp 65, .tmp 69], argTypes := #[28, 28] }) (Step.append_ch hU 51 32 (.agg #[.int .i64 0, .slice none 0 0]) 7 0 L2 m3 c3 l2 (some ⟨b47, 0, none⟩) 1 1 (row 51 2 (.slice (some ⟨b47, 0, none⟩) 1 1) 1 (chV ([(v33, A936, c937, zs38)] : List Ch))) ([(v33, A936, c937, zs38)] : List Ch) (by kernel_rfl) (by kernel_rfl) (by kernel_rfl) (by kernel_rfl) (by kernel_rfl) (by kernel_rfl) (by kernel_rfl) (tells_row _ _ _ _ _ _) rfl (by omega) (by omega) (by kernel_rfl) (fun Aq48 cq49 hc50 hA51 => ?_))
            refine RunR.turn ([chd .u8 (l2 ++ ([(v33, A936, c937, zs38)] : List Ch)), row 51 2 (.slice Aq48 (m3 + 1) cq49) (m3 + 1) (chV (l2 ++ ([(v33, A936, c937, zs38)] : List Ch))), row 51 2 (.slice (some ⟨b47, 0, none⟩) 1 1) 1 (chV ([(v33, A936, c937, zs38)] : List Ch)), blk wj 72 [pt d], blk d 70 [.slice A n c, .slice Wa m wc, .int .i64 lf, .bool dn], row 5 1 (.slice A n c) n (nums .u8 ss), row 51 2 (.slice Wa m wc) m (chV ws), chd .u8 ws, vw (some ⟨b20, 0, none⟩) (nums .u8 ([79, 87, 65, 76] : List Int)), row 5 1 (.slice A91 zs3.length c92) zs3.length (nums .u8 zs3)]) (fun _ _ w hs => SAT.chdPush v33 A936 c937 zs38 rfl (tells_row _ _ _ _ _ _) (hs.pulls2 [4, 7] ([row 5 1 (.slice A936 zs38.length c937) zs38.length (nums .u8 zs38), chd .u8 l2, row 51 2 (.slice Aq48 (m3 + 1) cq49) (m3 + 1) (chV (l2 ++ ([(v33, A936, c937, zs38)] : List Ch))), row 51 2 (.slice (some ⟨b47, 0, none⟩) 1 1) 1 (chV ([(v33, A936, c937, zs38)] : List Ch)), blk wj 72 [pt d], blk d 70 [.slice A n c, .slice Wa m wc, .int .i64 lf, .bool dn], row 5 1 (.slice A n c) n (nums .u8 ss), row 51 2 (.slice Wa m wc) m (chV ws), chd .u8 ws, vw (some ⟨b20, 0, none⟩) (nums .u8 ([79, 87, 65, 76] : List Int)), row 5 1 (.slice A91 zs3.length c92) zs3.length (nums .u8 zs3)]) (by kernel_rfl))) ?_
            refine RunR.sl hU [] 1 7 [0, 3, 6, 36, 37] [(0, pt wj), (3, .slice A91 zs3.length c92), (6, .slice Aq48 (m3 + 1) cq49), (36, .int .i64 v17), (37, .int .i64 i)] 1 ?_
            refine RunR.dn ?_
            refine kblock_n ?_
            refine kseq_n ?_
            refine RunC.region ?_
            refine RunR.sil hU [0] 2 2 [0, 3, 6, 36, 37] [(0, pt wj), (3, .slice A91 zs3.length c92), (6, .slice Aq48 (m3 + 1) cq49), (36, .int .i64 v17), (37, .int .i64 (i + 1))] ((-9223372036854775808 ≤ (i + 1) ∧ (i + 1) < 9223372036854775808) ∧ (True) ∧ True) rfl (by kernel_rfl) ⟨(by omega), trivial, trivial⟩ ?_
            refine RunR.dn ?_
            refine kloop_n _ [0, 3, 6, 36, 37] [1, 0, 6, 6, 2, 2, 2, 2, 1] [(0, pt wj), (3, .slice A91 zs3.length c92), (6, .slice Aq48 (m3 + 1) cq49), (36, .int .i64 v17), (37, .int .i64 (i + 1))] [row 51 2 (.slice Aq48 (m3 + 1) cq49) (m3 + 1) (chV (l2 ++ ([(v33, A936, c937, zs38)] : List Ch))), chd .u8 (l2 ++ ([(v33, A936, c937, zs38)] : List Ch)), vw (some ⟨b20, 0, none⟩) (nums .u8 ([79, 87, 65, 76] : List Int)), row 5 1 (.slice A91 zs3.length c92) zs3.length (nums .u8 zs3), blk d 70 [.slice A n c, .slice Wa m wc, .int .i64 lf, .bool dn], row 5 1 (.slice A n c) n (nums .u8 ss), row 51 2 (.slice Wa m wc) m (chV ws), chd .u8 ws, blk wj 72 [pt d]] (by kernel_rfl) (by kernel_rfl) ?_ ⟨(i + 1), (l2 ++ ([(v33, A936, c937, zs38)] : List Ch)), Aq48, (m3 + 1), cq49, (by omega), (by assumption), (by exact logged_step (by assumption) hl2 (by assumption) (by assumption) (by assumption) (by omega) hi), (by rw [List.length_append, hl2l]; rfl), (by omega), (by exact hok2.append (ChOK.one (by refine ⟨?_, ?_⟩ <;> omega) (by assumption) (by assumption) (by omega))), (by exact hbk2.app (by omega) (by omega) (by omega)), (by assumption), rfl, (by rfl), (by rfl)⟩
            show ((v17 - (i + 1)).toNat : Nat) < ((v17 - i).toNat : Nat)
            omega
        · skip
          refine RunC.exit ?_
          refine kseq_e ?_
          refine kloop_e ?_
          refine kblock_e ?_
          refine kseq_n ?_
          refine RunC.sr ?_
          refine RunR.sl hU [] 2 2 [2] [(2, .slice L2 m3 c3)] 2 ?_
          refine RunR.nn ?_
          refine RunC.ret ?_
          refine kret_r [.slice L2 m3 c3] [0, 0, 6, 2, 2, 2, 2] [row 51 2 (.slice L2 m3 c3) m3 (chV l2), chd .u8 l2, blk wj 72 [pt d], blk d 70 [.slice A n c, .slice Wa m wc, .int .i64 lf, .bool dn], row 5 1 (.slice A n c) n (nums .u8 ss), row 51 2 (.slice Wa m wc) m (chV ws), chd .u8 ws] ⟨rfl, trivial⟩ (by kernel_rfl) rfl ⟨L2, m3, c3, l2, rfl, rfl, (by exact logged_good (by assumption) (by assumption) (by assumption) (by assumption) hl2 hbk2 (by omega) (by assumption) (by assumption) (by omega)), (by assumption), (by omega), (by assumption), (by assumption), (by assumption)⟩
  · skip
    refine RunR.enveq [(0, pt wj), (2, .slice none 0 0), (3, .slice A91 zs3.length c92), (5, .int .i64 v17), (28, .bool true)] (by rw [decide_eq_false h22]; try rfl) ?_
    refine RunR.sl hU [] 7 13 [0, 2, 3, 5, 35] [(0, pt wj), (2, .slice none 0 0), (3, .slice A91 zs3.length c92), (5, .int .i64 v17), (35, .bool true)] 3 ?_
    refine RunR.nn ?_
    refine RunC.cond (b := true) (by kernel_rfl) (fun _ => ?_) (fun h => by cases h)
    refine RunC.sr ?_
    refine RunR.sl hU [] 1 1 [0, 2, 3, 5] [(0, pt wj), (2, .slice none 0 0), (3, .slice A91 zs3.length c92), (5, .int .i64 v17)] 1 ?_
    refine RunR.nn ?_
    refine RunC.ret ?_
    refine kseq_r ?_
    refine kret_rt ([chd .u8 ([] : List Ch), row 51 2 (.slice none 0 0) 0 (chV ([] : List Ch)), vw (some ⟨b20, 0, none⟩) (nums .u8 ([79, 87, 65, 76] : List Int)), row 5 1 (.slice A91 zs3.length c92) zs3.length (nums .u8 zs3), blk d 70 [.slice A n c, .slice Wa m wc, .int .i64 lf, .bool dn], row 5 1 (.slice A n c) n (nums .u8 ss), row 51 2 (.slice Wa m wc) m (chV ws), chd .u8 ws, blk wj 72 [pt d]]) (fun w0 W w hs => ((hs).nil_row 51 2).chd0 .u8) [.slice none 0 0] [1, 0, 6, 2, 2, 2, 2] [row 51 2 (.slice none 0 0) 0 (chV ([] : List Ch)), chd .u8 ([] : List Ch), blk wj 72 [pt d], blk d 70 [.slice A n c, .slice Wa m wc, .int .i64 lf, .bool dn], row 5 1 (.slice A n c) n (nums .u8 ss), row 51 2 (.slice Wa m wc) m (chV ws), chd .u8 ws] ⟨rfl, trivial⟩ (by kernel_rfl) rfl ⟨none, 0, 0, ([] : List Ch), rfl, rfl, (by exact logged_nomark (by assumption) (by assumption)), (by rfl), (by omega), (by exact ChOK.nil _), (by exact BOK.nil _), (by intro h; omega)⟩

theorem wl_lay_spec (t : Nat) (d : Nat) (A : Option Addr) (n : Nat) (c : Nat) (ss : List Int) (Wa : Option Addr) (m : Nat) (wc : Nat) (ws : List Ch) (lf : Int) (dn : Bool) (La : Option Addr) (lm : Nat) (lc : Nat) (ls : List Ch) (hss : In .u8 ss) (hnl : ss.length = n) (hnc : n ≤ c) (hAs : 0 < n → Option.isSome A = true) (hn6 : n % 256 = 0) (hnb : n ≤ 557056) (hml : ws.length = m) (hmb : m ≤ 900000) (hok : ChOK .u8 ws) (hwk : WOK n ws) (hWs : 0 < m → Option.isSome Wa = true) (hlf : 0 ≤ lf ∧ lf < 9223372036854775808) (hll : ls.length = lm) (hl4 : lm ≤ 40) (hlok : ChOK .u8 ls) (hbk : BOK n ls) (hn43 : 256 * 43 ≤ n) :
    CallsS Try.prog 42 [pt t] [blk t 76 [pt d, .slice La lm lc], blk d 70 [.slice A n c, .slice Wa m wc, .int .i64 lf, .bool dn], row 5 1 (.slice A n c) n (nums .u8 ss), row 51 2 (.slice Wa m wc) m (chV ws), chd .u8 ws, vw La (chV ls), vws (chL ls)] (fun r D => ∃ (e : Int) (Wb : Option Addr) (m2 : Nat) (wc2 : Nat) (ws2 : List Ch) (lf2 : Int) (dn2 : Bool), r = .int .i64 e ∧ D = [blk t 76 [pt d, .slice La lm lc], blk d 70 [.slice A n c, .slice Wb m2 wc2, .int .i64 lf2, .bool dn2], row 5 1 (.slice A n c) n (nums .u8 ss), row 51 2 (.slice Wb m2 wc2) m2 (chV ws2), chd .u8 ws2] ∧ ((e, dat ws2, lf2, dn2) = wrs n (dat ws) lf dn (layL (dat ls))) ∧ (ws2.length = m2) ∧ (m2 ≤ m + 40) ∧ (ChOK .u8 ws2) ∧ (WOK n ws2) ∧ (0 < m2 → Option.isSome Wb = true) ∧ (0 ≤ lf2 ∧ lf2 < 9223372036854775808)) := by
  refine CallsS.enter hU Try.f42 _ [.tmp 2] 29 Try.func42 rfl (by decide) rfl rfl (by kernel_rfl) fun w0 W => ?_
  refine RunC.know (p := 0 < ls.length * 2 → Option.isSome La = true) (fun _ _ w hs => vw_some hs 5 rfl (by exact chV_len _)) (fun hA1 => ?_)
  refine RunC.sr ?_
  refine RunR.sl hU [] 1 1 [0, 2] [(0, pt t), (2, .int .i64 0)] 1 ?_
  refine RunR.nn ?_
  refine RunC.seq ?_
  refine RunC.sr ?_
  refine RunR.sl hU [] 3 3 [0, 2, 8] [(0, pt t), (2, .int .i64 0), (8, .pointer (some ⟨t, 1, none⟩))] 3 ?_
  refine RunR.st (some 9) (.load 28 (.tmp 8)) (Step.load_blk hU 0 t (1) 76 [pt d, .slice La lm lc] (.slice La lm lc) (by kernel_rfl) (by kernel_rfl) (by kernel_rfl) (by kernel_rfl) ?_)
  refine RunR.sl hU [] 2 6 [0, 2, 9, 10, 11] [(0, pt t), (2, .int .i64 0), (9, .slice La lm lc), (10, .int .i64 ((lm : Nat) : Int)), (11, .int .i64 0)] 2 ?_
  refine RunR.nn ?_
  refine RunC.block ?_
  refine RunC.env [0, 9, 10, 11] [(0, pt t), (9, .slice La lm lc), (10, .int .i64 ((lm : Nat) : Int)), (11, .int .i64 0)] (by kernel_rfl) ?_
  refine RunC.only [1, 2, 2, 0, 0, 0, 0] [blk d 70 [.slice A n c, .slice Wa m wc, .int .i64 lf, .bool dn], row 51 2 (.slice Wa m wc) m (chV ws), chd .u8 ws, blk t 76 [pt d, .slice La lm lc], row 5 1 (.slice A n c) n (nums .u8 ss), vw La (chV ls), vws (chL ls)] (by kernel_rfl) ?_
  refine RunC.loop (σ := Nat) (fun n_ t_ D_ => ∃ (i : Int) (Wl : Option Addr) (ml : Nat) (wl : Nat) (wsl : List Ch) (ll : Int) (dl : Bool), (0 ≤ i) ∧ (i ≤ (lm : Int)) ∧ ((0, dat wsl, ll, dl) = wrs n (dat ws) lf dn ((layL (dat ls)).take i.toNat)) ∧ (wsl.length = ml) ∧ ((ml : Int) ≤ m + i) ∧ (ChOK .u8 wsl) ∧ (WOK n wsl) ∧ (0 < ml → Option.isSome Wl = true) ∧ (0 ≤ ll ∧ ll < 9223372036854775808) ∧ n_ = ((lm - i).toNat : Nat) ∧ t_ = [(0, pt t), (9, .slice La lm lc), (10, .int .i64 ((lm : Nat) : Int)), (11, .int .i64 i)] ∧ D_ = [blk d 70 [.slice A n c, .slice Wl ml wl, .int .i64 ll, .bool dl], row 51 2 (.slice Wl ml wl) ml (chV wsl), chd .u8 wsl, blk t 76 [pt d, .slice La lm lc], row 5 1 (.slice A n c) n (nums .u8 ss), vw La (chV ls), vws (chL ls)]) id _ ⟨0, Wa, m, wc, ws, lf, dn, (by omega), (by omega), (by rfl), (by assumption), (by omega), (by assumption), (by assumption), (by assumption), (by assumption), rfl, rfl, rfl⟩ ?_
  rintro n_ _ _ ⟨i, Wl, ml, wl, wsl, ll, dl, hi, him, hwr, hmll, hmbl, hokl, hwkl, hWl, hlfl, rfl, rfl, rfl⟩
  refine RunC.sr ?_
  refine RunR.sl hU [] 1 1 [0, 9, 10, 11, 12] [(0, pt t), (9, .slice La lm lc), (10, .int .i64 ((lm : Nat) : Int)), (11, .int .i64 i), (12, .bool (decide (i < ((lm : Nat) : Int))))] 1 ?_
  refine RunR.nn ?_
  refine RunC.seq ?_
  refine RunC.condp (i < ((lm : Nat) : Int)) (by kernel_rfl) (fun h2 => ?_) (fun h2 => ?_)
  · skip
    refine RunC.ks ?_
    refine RunC.seq ?_
    refine RunC.block ?_
    refine RunC.sr ?_
    refine RunR.sil hU [] 1 1 [0, 9, 10, 11, 13] [(0, pt t), (9, .slice La lm lc), (10, .int .i64 ((lm : Nat) : Int)), (11, .int .i64 i), (13, .pointer (elemAt La i 2))] (((0 ≤ i ∧ i < ((lm : Nat) : Int)) ∧ Option.isSome La = true) ∧ True) rfl (by kernel_rfl) ⟨⟨by omega, hA1 (by omega)⟩, trivial⟩ ?_
    obtain ⟨k3, Ae4, ce5, xe6, hg7, hf8, hr9, hc10, hl11⟩ := ch_at (by assumption : ChOK .u8 ls) (i := (i).toNat) (by omega)
    have hf12 := hf8; simp only [fits] at hf12
    have hw13 := bok_at hbk hg7
    refine RunR.st (some 14) (.load 51 (.tmp 13)) (Step.load_of hU 5 (vw La (chV ls)) La i 2 (chV ls) (.agg #[.int .i64 k3, .slice Ae4 xe6.length ce5]) (by kernel_rfl) (by kernel_rfl) (tells_vw _ _) (loadv_ch (by kernel_rfl) (by kernel_rfl) hg7) (by kernel_rfl) (by rw [chV_len]; omega) ?_)
    refine RunR.st (some 4) (.alloc 51) (Step.al hU 2 32 (.agg #[.int .i64 0, .slice none 0 0]) (fun b14 => ?_))
    refine RunR.st none (.store 51 (.tmp 4) (.tmp 14)) (Step.store_blk hU 0 b14 0 51 [.int .i64 0, .slice none 0 0] (.agg #[.int .i64 k3, .slice Ae4 xe6.length ce5]) (by kernel_rfl) (by kernel_rfl) (by kernel_rfl) 2 rfl [.int .i64 k3, .slice Ae4 xe6.length ce5] (by kernel_rfl) rfl (by kernel_rfl) (by decide) ?_)
    refine RunR.nn ?_
    refine RunC.seq ?_
    refine RunC.regionU hU 11 [blk t 76 [pt d, .slice La lm lc], blk b14 51 [.int .i64 k3, .slice Ae4 xe6.length ce5]] [4, 0] [9, 10] (bm 11 0) (by kernel_rfl) (by kernel_rfl) (by kernel_rfl) ?_
    refine RunU.sl hU 0 (bm 11 1) 15 (pt t) ?_
    refine RunU.sl hU 1 (bm 11 3) 16 (pt t) ?_
    refine RunU.sl hU 2 (bm 11 7) 17 (pt t) ?_
    refine RunU.rd 3 (bm 11 15) 18 (.load 30 (.tmp 17)) (pt d) [4, 0] (Reads.load_blk hU 0 t (0) 76 [pt d, .slice La lm lc] (pt d) (by kernel_rfl) (by kernel_rfl) (by kernel_rfl)) ?_
    refine RunU.sl hU 4 (bm 11 31) 19 (pt b14) ?_
    refine RunU.rd 5 (bm 11 63) 20 (.load 3 (.tmp 19)) (.int .i64 k3) [4, 0] (Reads.load_blk hU 1 b14 (0) 51 [.int .i64 k3, .slice Ae4 xe6.length ce5] (.int .i64 k3) (by kernel_rfl) (by kernel_rfl) (by kernel_rfl)) ?_
    refine RunU.sl hU 7 (bm 11 191) 22 (.pointer (some ⟨b14, 1, none⟩)) ?_
    refine RunU.rd 8 (bm 11 447) 23 (.load 23 (.tmp 22)) (.slice Ae4 xe6.length ce5) [4, 0] (Reads.load_blk hU 1 b14 (1) 51 [.int .i64 k3, .slice Ae4 xe6.length ce5] (.slice Ae4 xe6.length ce5) (by kernel_rfl) (by kernel_rfl) (by kernel_rfl)) ?_
    refine RunU.on (some 21) (.call { callee := .value (.func 53), args := #[.tmp 20], argTypes := #[3] }) 6 (bm 11 511) [4, 0] (Step.cn 53 [.int .i64 k3] [] [blk b14 51 [.int .i64 k3, .slice Ae4 xe6.length ce5], blk d 70 [.slice A n c, .slice Wl ml wl, .int .i64 ll, .bool dl], row 51 2 (.slice Wl ml wl) ml (chV wsl), chd .u8 wsl, blk t 76 [pt d, .slice La lm lc], row 5 1 (.slice A n c) n (nums .u8 ss), vw La (chV ls), vws (chL ls)] (wl_place_spec k3 (by omega)) [] ?_)
    rintro _ _ ⟨rfl, rfl⟩
    refine orL ?_
    refine RunU.on (some 24) (.call { callee := .value (.func 52), args := #[.tmp 18, .tmp 21, .tmp 23], argTypes := #[30, 3, 23] }) 9 (bm 11 1023) [] (Step.cl 52 [pt d, .int .i64 (42 + k3), .slice Ae4 xe6.length ce5] [blk d 70 [.slice A n c, .slice Wl ml wl, .int .i64 ll, .bool dl], row 5 1 (.slice A n c) n (nums .u8 ss), row 51 2 (.slice Wl ml wl) ml (chV wsl), chd .u8 wsl] [vw Ae4 (nums .u8 xe6)] [blk b14 51 [.int .i64 k3, .slice Ae4 xe6.length ce5], blk t 76 [pt d, .slice La lm lc], vw La (chV ls), vws (chL ls)] (d_Write_spec d A n c ss Wl ml wl wsl ll dl (42 + k3) Ae4 ce5 xe6 xe6.length hss (by assumption) (by assumption) (fun h => hAs (by exact h)) (by assumption) (by assumption) (by assumption) (by omega) (by assumption) (by assumption) (fun h => hWl (by exact h)) (by assumption) (by (refine ⟨?_, ?_⟩ <;> omega)) hr9 (by assumption) (by assumption) (by rfl)) [1, 4, 1, 1] ((Lend.nil _).tells 3 (vws (chL ls)) Ae4 (nums .u8 xe6) (by kernel_rfl) (tells_chL hg7)) ?_)
    rintro _ _ ⟨e15, Wb16, m217, wc218, ws219, lf220, dn221, rfl, rfl, hp22, hp23, hp24, hp25, hp26, hp27, hp28⟩
    refine orR ?_
    refine RunU.sl hU 10 (bm 11 2047) 5 (.int .i64 e15) ?_
    refine RunU.ev [0, 5, 9, 10, 11] [(0, pt t), (5, .int .i64 e15), (9, .slice La lm lc), (10, .int .i64 ((lm : Nat) : Int)), (11, .int .i64 i)] ?_
    refine RunU.dn ?_
    refine kseq_n ?_
    refine RunC.sr ?_
    refine RunR.sl hU [] 2 2 [0, 5, 9, 10, 11, 26] [(0, pt t), (5, .int .i64 e15), (9, .slice La lm lc), (10, .int .i64 ((lm : Nat) : Int)), (11, .int .i64 i), (26, .bool (!decide (e15 = 0)))] 2 ?_
    refine RunR.nn ?_
    refine RunC.condn (e15 = 0) (by kernel_rfl) (fun h29 => ?_) (fun h29 => ?_)
    · skip
      refine RunC.sr ?_
      refine RunR.sl hU [] 2 2 [0, 2, 9, 10, 11] [(0, pt t), (2, .int .i64 e15), (9, .slice La lm lc), (10, .int .i64 ((lm : Nat) : Int)), (11, .int .i64 i)] 2 ?_
      refine RunR.nn ?_
      refine RunC.ret ?_
      refine kblock_r ?_
      refine kseq_r ?_
      refine kloop_r ?_
      refine kblock_r ?_
      refine kseq_r ?_
      refine kret_r [.int .i64 e15] [5, 0, 0, 0, 0] [blk t 76 [pt d, .slice La lm lc], blk d 70 [.slice A n c, .slice Wb16 m217 wc218, .int .i64 lf220, .bool dn221], row 5 1 (.slice A n c) n (nums .u8 ss), row 51 2 (.slice Wb16 m217 wc218) m217 (chV ws219), chd .u8 ws219] ⟨rfl, trivial⟩ (by kernel_rfl) rfl ⟨e15, Wb16, m217, wc218, ws219, lf220, dn221, rfl, rfl, (by exact wrs_stop hwr (lay_get (dat_get (by assumption))) hp22 (by assumption)), (by assumption), (by omega), (by assumption), (by assumption), (by assumption), (by assumption)⟩
    · skip
      refine RunC.skip ?_
      refine kblock_n ?_
      refine kseq_n ?_
      refine RunC.region ?_
      refine RunR.sil hU [0] 2 2 [0, 9, 10, 11] [(0, pt t), (9, .slice La lm lc), (10, .int .i64 ((lm : Nat) : Int)), (11, .int .i64 (i + 1))] ((-9223372036854775808 ≤ (i + 1) ∧ (i + 1) < 9223372036854775808) ∧ (True) ∧ True) rfl (by kernel_rfl) ⟨(by omega), trivial, trivial⟩ ?_
      refine RunR.dn ?_
      refine kloop_n _ [0, 9, 10, 11] [0, 1, 1, 2, 0, 1, 1] [(0, pt t), (9, .slice La lm lc), (10, .int .i64 ((lm : Nat) : Int)), (11, .int .i64 (i + 1))] [blk d 70 [.slice A n c, .slice Wb16 m217 wc218, .int .i64 lf220, .bool dn221], row 51 2 (.slice Wb16 m217 wc218) m217 (chV ws219), chd .u8 ws219, blk t 76 [pt d, .slice La lm lc], row 5 1 (.slice A n c) n (nums .u8 ss), vw La (chV ls), vws (chL ls)] (by kernel_rfl) (by kernel_rfl) ?_ ⟨(i + 1), Wb16, m217, wc218, ws219, lf220, dn221, (by omega), (by assumption), (by rw [show (i + 1).toNat = i.toNat + 1 by omega]; exact wrs_step hwr (lay_get (dat_get (by assumption))) hp22 (by assumption)), (by assumption), (by omega), (by assumption), (by assumption), (fun h => hp27 (by exact h)), (by assumption), rfl, (by rfl), (by rfl)⟩
      show ((lm - (i + 1)).toNat : Nat) < ((lm - i).toNat : Nat)
      omega
  · skip
    refine RunC.exit ?_
    refine kseq_e ?_
    refine kloop_e ?_
    refine kblock_e ?_
    refine kseq_n ?_
    refine RunC.sr ?_
    refine RunR.sl hU [] 1 1 [2] [(2, .int .i64 0)] 1 ?_
    refine RunR.nn ?_
    refine RunC.ret ?_
    refine kret_r [.int .i64 0] [3, 0, 2, 0, 0] [blk t 76 [pt d, .slice La lm lc], blk d 70 [.slice A n c, .slice Wl ml wl, .int .i64 ll, .bool dl], row 5 1 (.slice A n c) n (nums .u8 ss), row 51 2 (.slice Wl ml wl) ml (chV wsl), chd .u8 wsl] ⟨rfl, trivial⟩ (by kernel_rfl) rfl ⟨0, Wl, ml, wl, wsl, ll, dl, rfl, rfl, (by exact wrs_end hwr (by rw [layL_len, dat_len]; omega)), (by assumption), (by omega), (by assumption), (by assumption), (by assumption), (by assumption)⟩

theorem wl_log_spec (t : Nat) (d : Nat) (A : Option Addr) (n : Nat) (c : Nat) (ss : List Int) (Wa : Option Addr) (m : Nat) (wc : Nat) (ws : List Ch) (lf : Int) (dn : Bool) (La : Option Addr) (lm : Nat) (lc : Nat) (ls : List Ch) (hss : In .u8 ss) (hnl : ss.length = n) (hnc : n ≤ c) (hAs : 0 < n → Option.isSome A = true) (hn6 : n % 256 = 0) (hnb : n ≤ 557056) (hml : ws.length = m) (hmb : m ≤ 900000) (hok : ChOK .u8 ws) (hwk : WOK n ws) (hWs : 0 < m → Option.isSome Wa = true) (hlf : 0 ≤ lf ∧ lf < 9223372036854775808) (hll : ls.length = lm) (hl4 : lm ≤ 40) (hlok : ChOK .u8 ls) (hbk : BOK n ls) (hn43 : 256 * 43 ≤ n) :
    CallsS Try.prog 48 [pt t] [blk t 76 [pt d, .slice La lm lc], blk d 70 [.slice A n c, .slice Wa m wc, .int .i64 lf, .bool dn], row 5 1 (.slice A n c) n (nums .u8 ss), row 51 2 (.slice Wa m wc) m (chV ws), chd .u8 ws, vw La (chV ls), vws (chL ls)] (fun r D => ∃ (e : Int) (Wb : Option Addr) (m2 : Nat) (wc2 : Nat) (ws2 : List Ch) (lf2 : Int) (dn2 : Bool), r = .int .i64 e ∧ D = [blk t 76 [pt d, .slice La lm lc], blk d 70 [.slice A n c, .slice Wb m2 wc2, .int .i64 lf2, .bool dn2], row 5 1 (.slice A n c) n (nums .u8 ss), row 51 2 (.slice Wb m2 wc2) m2 (chV ws2), chd .u8 ws2] ∧ ((e, dat ws2, lf2, dn2) = wrs n (dat ws) lf dn (logL 1 (dat ls))) ∧ (ws2.length = m2) ∧ (m2 ≤ m + 40) ∧ (ChOK .u8 ws2) ∧ (WOK n ws2) ∧ (0 < m2 → Option.isSome Wb = true) ∧ (0 ≤ lf2 ∧ lf2 < 9223372036854775808)) := by
  refine CallsS.enter hU Try.f48 _ [.tmp 2] 29 Try.func48 rfl (by decide) rfl rfl (by kernel_rfl) fun w0 W => ?_
  refine RunC.know (p := 0 < ls.length * 2 → Option.isSome La = true) (fun _ _ w hs => vw_some hs 5 rfl (by exact chV_len _)) (fun hA1 => ?_)
  refine RunC.sr ?_
  refine RunR.sl hU [] 1 1 [0, 2] [(0, pt t), (2, .int .i64 0)] 1 ?_
  refine RunR.nn ?_
  refine RunC.seq ?_
  refine RunC.sr ?_
  refine RunR.sl hU [] 3 3 [0, 2, 8] [(0, pt t), (2, .int .i64 0), (8, .pointer (some ⟨t, 1, none⟩))] 3 ?_
  refine RunR.st (some 9) (.load 28 (.tmp 8)) (Step.load_blk hU 0 t (1) 76 [pt d, .slice La lm lc] (.slice La lm lc) (by kernel_rfl) (by kernel_rfl) (by kernel_rfl) (by kernel_rfl) ?_)
  refine RunR.sl hU [] 2 6 [0, 2, 9, 10, 11] [(0, pt t), (2, .int .i64 0), (9, .slice La lm lc), (10, .int .i64 ((lm : Nat) : Int)), (11, .int .i64 0)] 2 ?_
  refine RunR.nn ?_
  refine RunC.block ?_
  refine RunC.env [0, 9, 10, 11] [(0, pt t), (9, .slice La lm lc), (10, .int .i64 ((lm : Nat) : Int)), (11, .int .i64 0)] (by kernel_rfl) ?_
  refine RunC.only [1, 2, 2, 0, 0, 0, 0] [blk d 70 [.slice A n c, .slice Wa m wc, .int .i64 lf, .bool dn], row 51 2 (.slice Wa m wc) m (chV ws), chd .u8 ws, blk t 76 [pt d, .slice La lm lc], row 5 1 (.slice A n c) n (nums .u8 ss), vw La (chV ls), vws (chL ls)] (by kernel_rfl) ?_
  refine RunC.loop (σ := Nat) (fun n_ t_ D_ => ∃ (i : Int) (Wl : Option Addr) (ml : Nat) (wl : Nat) (wsl : List Ch) (ll : Int) (dl : Bool), (0 ≤ i) ∧ (i ≤ (lm : Int)) ∧ ((0, dat wsl, ll, dl) = wrs n (dat ws) lf dn ((logL 1 (dat ls)).take i.toNat)) ∧ (wsl.length = ml) ∧ ((ml : Int) ≤ m + i) ∧ (ChOK .u8 wsl) ∧ (WOK n wsl) ∧ (0 < ml → Option.isSome Wl = true) ∧ (0 ≤ ll ∧ ll < 9223372036854775808) ∧ n_ = ((lm - i).toNat : Nat) ∧ t_ = [(0, pt t), (9, .slice La lm lc), (10, .int .i64 ((lm : Nat) : Int)), (11, .int .i64 i)] ∧ D_ = [blk d 70 [.slice A n c, .slice Wl ml wl, .int .i64 ll, .bool dl], row 51 2 (.slice Wl ml wl) ml (chV wsl), chd .u8 wsl, blk t 76 [pt d, .slice La lm lc], row 5 1 (.slice A n c) n (nums .u8 ss), vw La (chV ls), vws (chL ls)]) id _ ⟨0, Wa, m, wc, ws, lf, dn, (by omega), (by omega), (by rfl), (by assumption), (by omega), (by assumption), (by assumption), (by assumption), (by assumption), rfl, rfl, rfl⟩ ?_
  rintro n_ _ _ ⟨i, Wl, ml, wl, wsl, ll, dl, hi, him, hwr, hmll, hmbl, hokl, hwkl, hWl, hlfl, rfl, rfl, rfl⟩
  refine RunC.sr ?_
  refine RunR.sl hU [] 1 1 [0, 9, 10, 11, 12] [(0, pt t), (9, .slice La lm lc), (10, .int .i64 ((lm : Nat) : Int)), (11, .int .i64 i), (12, .bool (decide (i < ((lm : Nat) : Int))))] 1 ?_
  refine RunR.nn ?_
  refine RunC.seq ?_
  refine RunC.condp (i < ((lm : Nat) : Int)) (by kernel_rfl) (fun h2 => ?_) (fun h2 => ?_)
  · skip
    refine RunC.ks ?_
    refine RunC.seq ?_
    refine RunC.block ?_
    refine RunC.sr ?_
    refine RunR.sil hU [] 2 2 [0, 9, 10, 11, 13, 14] [(0, pt t), (9, .slice La lm lc), (10, .int .i64 ((lm : Nat) : Int)), (11, .int .i64 i), (13, .int .i64 i), (14, .pointer (elemAt La i 2))] ((True) ∧ ((0 ≤ i ∧ i < ((lm : Nat) : Int)) ∧ Option.isSome La = true) ∧ True) rfl (by kernel_rfl) ⟨trivial, ⟨by omega, hA1 (by omega)⟩, trivial⟩ ?_
    obtain ⟨k3, Ae4, ce5, xe6, hg7, hf8, hr9, hc10, hl11⟩ := ch_at (by assumption : ChOK .u8 ls) (i := (i).toNat) (by omega)
    have hf12 := hf8; simp only [fits] at hf12
    have hw13 := bok_at hbk hg7
    refine RunR.st (some 15) (.load 51 (.tmp 14)) (Step.load_of hU 5 (vw La (chV ls)) La i 2 (chV ls) (.agg #[.int .i64 k3, .slice Ae4 xe6.length ce5]) (by kernel_rfl) (by kernel_rfl) (tells_vw _ _) (loadv_ch (by kernel_rfl) (by kernel_rfl) hg7) (by kernel_rfl) (by rw [chV_len]; omega) ?_)
    refine RunR.st (some 4) (.alloc 51) (Step.al hU 2 32 (.agg #[.int .i64 0, .slice none 0 0]) (fun b14 => ?_))
    refine RunR.sl hU [] 1 5 [0, 3, 4, 9, 10, 11, 15] [(0, pt t), (3, .int .i64 i), (4, pt b14), (9, .slice La lm lc), (10, .int .i64 ((lm : Nat) : Int)), (11, .int .i64 i), (15, .agg #[.int .i64 k3, .slice Ae4 xe6.length ce5])] 1 ?_
    refine RunR.st none (.store 51 (.tmp 4) (.tmp 15)) (Step.store_blk hU 0 b14 0 51 [.int .i64 0, .slice none 0 0] (.agg #[.int .i64 k3, .slice Ae4 xe6.length ce5]) (by kernel_rfl) (by kernel_rfl) (by kernel_rfl) 2 rfl [.int .i64 k3, .slice Ae4 xe6.length ce5] (by kernel_rfl) rfl (by kernel_rfl) (by decide) ?_)
    refine RunR.nn ?_
    refine RunC.seq ?_
    refine RunC.regionU hU 10 [blk t 76 [pt d, .slice La lm lc], blk b14 51 [.int .i64 k3, .slice Ae4 xe6.length ce5]] [4, 0] [8, 9] (bm 10 0) (by kernel_rfl) (by kernel_rfl) (by kernel_rfl) ?_
    refine RunU.sl hU 0 (bm 10 1) 16 (pt t) ?_
    refine RunU.sl hU 1 (bm 10 3) 17 (pt t) ?_
    refine RunU.sl hU 2 (bm 10 7) 18 (pt t) ?_
    refine RunU.rd 3 (bm 10 15) 19 (.load 30 (.tmp 18)) (pt d) [4, 0] (Reads.load_blk hU 0 t (0) 76 [pt d, .slice La lm lc] (pt d) (by kernel_rfl) (by kernel_rfl) (by kernel_rfl)) ?_
    refine RunU.sl hU 4 (bm 10 31) 20 (.int .i64 i) ?_
    refine RunU.sil hU true 5 (bm 10 63) 21 (.int .i64 (1 + i)) (-9223372036854775808 ≤ (1 + i) ∧ (1 + i) < 9223372036854775808) (by kernel_rfl) (by omega) (by kernel_rfl) (by kernel_rfl) (fun _ _ _ h => h) ?_
    refine RunU.sl hU 6 (bm 10 127) 22 (.pointer (some ⟨b14, 1, none⟩)) ?_
    refine RunU.rd 7 (bm 10 255) 23 (.load 23 (.tmp 22)) (.slice Ae4 xe6.length ce5) [4, 0] (Reads.load_blk hU 1 b14 (1) 51 [.int .i64 k3, .slice Ae4 xe6.length ce5] (.slice Ae4 xe6.length ce5) (by kernel_rfl) (by kernel_rfl) (by kernel_rfl)) ?_
    refine RunU.on (some 24) (.call { callee := .value (.func 52), args := #[.tmp 19, .tmp 21, .tmp 23], argTypes := #[30, 3, 23] }) 8 (bm 10 511) [] (Step.cl 52 [pt d, .int .i64 (1 + i), .slice Ae4 xe6.length ce5] [blk d 70 [.slice A n c, .slice Wl ml wl, .int .i64 ll, .bool dl], row 5 1 (.slice A n c) n (nums .u8 ss), row 51 2 (.slice Wl ml wl) ml (chV wsl), chd .u8 wsl] [vw Ae4 (nums .u8 xe6)] [blk b14 51 [.int .i64 k3, .slice Ae4 xe6.length ce5], blk t 76 [pt d, .slice La lm lc], vw La (chV ls), vws (chL ls)] (d_Write_spec d A n c ss Wl ml wl wsl ll dl (1 + i) Ae4 ce5 xe6 xe6.length hss (by assumption) (by assumption) (fun h => hAs (by exact h)) (by assumption) (by assumption) (by assumption) (by omega) (by assumption) (by assumption) (fun h => hWl (by exact h)) (by assumption) (by (refine ⟨?_, ?_⟩ <;> omega)) hr9 (by assumption) (by assumption) (by rfl)) [1, 4, 1, 1] ((Lend.nil _).tells 3 (vws (chL ls)) Ae4 (nums .u8 xe6) (by kernel_rfl) (tells_chL hg7)) ?_)
    rintro _ _ ⟨e15, Wb16, m217, wc218, ws219, lf220, dn221, rfl, rfl, hp22, hp23, hp24, hp25, hp26, hp27, hp28⟩
    refine orR ?_
    refine RunU.sl hU 9 (bm 10 1023) 5 (.int .i64 e15) ?_
    refine RunU.ev [0, 5, 9, 10, 11] [(0, pt t), (5, .int .i64 e15), (9, .slice La lm lc), (10, .int .i64 ((lm : Nat) : Int)), (11, .int .i64 i)] ?_
    refine RunU.dn ?_
    refine kseq_n ?_
    refine RunC.sr ?_
    refine RunR.sl hU [] 2 2 [0, 5, 9, 10, 11, 26] [(0, pt t), (5, .int .i64 e15), (9, .slice La lm lc), (10, .int .i64 ((lm : Nat) : Int)), (11, .int .i64 i), (26, .bool (!decide (e15 = 0)))] 2 ?_
    refine RunR.nn ?_
    refine RunC.condn (e15 = 0) (by kernel_rfl) (fun h29 => ?_) (fun h29 => ?_)
    · skip
      refine RunC.sr ?_
      refine RunR.sl hU [] 2 2 [0, 2, 9, 10, 11] [(0, pt t), (2, .int .i64 e15), (9, .slice La lm lc), (10, .int .i64 ((lm : Nat) : Int)), (11, .int .i64 i)] 2 ?_
      refine RunR.nn ?_
      refine RunC.ret ?_
      refine kblock_r ?_
      refine kseq_r ?_
      refine kloop_r ?_
      refine kblock_r ?_
      refine kseq_r ?_
      refine kret_r [.int .i64 e15] [5, 0, 0, 0, 0] [blk t 76 [pt d, .slice La lm lc], blk d 70 [.slice A n c, .slice Wb16 m217 wc218, .int .i64 lf220, .bool dn221], row 5 1 (.slice A n c) n (nums .u8 ss), row 51 2 (.slice Wb16 m217 wc218) m217 (chV ws219), chd .u8 ws219] ⟨rfl, trivial⟩ (by kernel_rfl) rfl ⟨e15, Wb16, m217, wc218, ws219, lf220, dn221, rfl, rfl, (by exact wrs_stop hwr ((log_get (dat_get (by assumption))).trans (by congr 2; omega)) hp22 (by assumption)), (by assumption), (by omega), (by assumption), (by assumption), (by assumption), (by assumption)⟩
    · skip
      refine RunC.skip ?_
      refine kblock_n ?_
      refine kseq_n ?_
      refine RunC.region ?_
      refine RunR.sil hU [0] 2 2 [0, 9, 10, 11] [(0, pt t), (9, .slice La lm lc), (10, .int .i64 ((lm : Nat) : Int)), (11, .int .i64 (i + 1))] ((-9223372036854775808 ≤ (i + 1) ∧ (i + 1) < 9223372036854775808) ∧ (True) ∧ True) rfl (by kernel_rfl) ⟨(by omega), trivial, trivial⟩ ?_
      refine RunR.dn ?_
      refine kloop_n _ [0, 9, 10, 11] [0, 1, 1, 2, 0, 1, 1] [(0, pt t), (9, .slice La lm lc), (10, .int .i64 ((lm : Nat) : Int)), (11, .int .i64 (i + 1))] [blk d 70 [.slice A n c, .slice Wb16 m217 wc218, .int .i64 lf220, .bool dn221], row 51 2 (.slice Wb16 m217 wc218) m217 (chV ws219), chd .u8 ws219, blk t 76 [pt d, .slice La lm lc], row 5 1 (.slice A n c) n (nums .u8 ss), vw La (chV ls), vws (chL ls)] (by kernel_rfl) (by kernel_rfl) ?_ ⟨(i + 1), Wb16, m217, wc218, ws219, lf220, dn221, (by omega), (by assumption), (by rw [show (i + 1).toNat = i.toNat + 1 by omega]; exact wrs_step hwr ((log_get (dat_get (by assumption))).trans (by congr 2; omega)) hp22 (by assumption)), (by assumption), (by omega), (by assumption), (by assumption), (fun h => hp27 (by exact h)), (by assumption), rfl, (by rfl), (by rfl)⟩
      show ((lm - (i + 1)).toNat : Nat) < ((lm - i).toNat : Nat)
      omega
  · skip
    refine RunC.exit ?_
    refine kseq_e ?_
    refine kloop_e ?_
    refine kblock_e ?_
    refine kseq_n ?_
    refine RunC.sr ?_
    refine RunR.sl hU [] 1 1 [2] [(2, .int .i64 0)] 1 ?_
    refine RunR.nn ?_
    refine RunC.ret ?_
    refine kret_r [.int .i64 0] [3, 0, 2, 0, 0] [blk t 76 [pt d, .slice La lm lc], blk d 70 [.slice A n c, .slice Wl ml wl, .int .i64 ll, .bool dl], row 5 1 (.slice A n c) n (nums .u8 ss), row 51 2 (.slice Wl ml wl) ml (chV wsl), chd .u8 wsl] ⟨rfl, trivial⟩ (by kernel_rfl) rfl ⟨0, Wl, ml, wl, wsl, ll, dl, rfl, rfl, (by exact wrs_end hwr (by rw [logL_len, dat_len]; omega)), (by assumption), (by omega), (by assumption), (by assumption), (by assumption), (by assumption)⟩

theorem wl_mark_spec (t : Nat) (d : Nat) (A : Option Addr) (n : Nat) (c : Nat) (ss : List Int) (Wa : Option Addr) (m : Nat) (wc : Nat) (ws : List Ch) (lf : Int) (dn : Bool) (La : Option Addr) (lm : Nat) (lc : Nat) (ls : List Ch) (hss : In .u8 ss) (hnl : ss.length = n) (hnc : n ≤ c) (hAs : 0 < n → Option.isSome A = true) (hn6 : n % 256 = 0) (hnb : n ≤ 557056) (hml : ws.length = m) (hmb : m ≤ 900000) (hok : ChOK .u8 ws) (hwk : WOK n ws) (hWs : 0 < m → Option.isSome Wa = true) (hlf : 0 ≤ lf ∧ lf < 9223372036854775808) (hll : ls.length = lm) (hl4 : lm ≤ 40) (hlok : ChOK .u8 ls) (hbk : BOK n ls) (hn43 : 256 * 43 ≤ n) :
    CallsS Try.prog 49 [pt t] [blk t 76 [pt d, .slice La lm lc], blk d 70 [.slice A n c, .slice Wa m wc, .int .i64 lf, .bool dn], row 5 1 (.slice A n c) n (nums .u8 ss), row 51 2 (.slice Wa m wc) m (chV ws), chd .u8 ws, vw La (chV ls), vws (chL ls)] (fun r D => ∃ (e : Int) (Wb : Option Addr) (m2 : Nat) (wc2 : Nat) (ws2 : List Ch) (lf2 : Int) (dn2 : Bool), r = .int .i64 e ∧ D = [blk t 76 [pt d, .slice La lm lc], blk d 70 [.slice A n c, .slice Wb m2 wc2, .int .i64 lf2, .bool dn2], row 5 1 (.slice A n c) n (nums .u8 ss), row 51 2 (.slice Wb m2 wc2) m2 (chV ws2), chd .u8 ws2] ∧ ((e, dat ws2, lf2, dn2) = wrs n (dat ws) lf dn [(0, headL (dat ls))]) ∧ (ws2.length = m2) ∧ (m2 ≤ m + 1) ∧ (ChOK .u8 ws2) ∧ (WOK n ws2) ∧ (0 < m2 → Option.isSome Wb = true) ∧ (0 ≤ lf2 ∧ lf2 < 9223372036854775808)) := by
  refine CallsS.enter hU Try.f49 _ [.tmp 2] 13 Try.func49 rfl (by decide) rfl rfl (by kernel_rfl) fun w0 W => ?_
  refine RunC.know (p := 0 < ls.length * 2 → Option.isSome La = true) (fun _ _ w hs => vw_some hs 5 rfl (by exact chV_len _)) (fun hA1 => ?_)
  refine RunC.sr ?_
  refine RunR.sl hU [] 1 1 [0, 2] [(0, pt t), (2, .int .i64 0)] 1 ?_
  refine RunR.nn ?_
  refine RunC.seq ?_
  refine RunC.regionU hU 11 [blk t 76 [pt d, .slice La lm lc]] [0] [9, 10] (bm 11 0) (by kernel_rfl) (by kernel_rfl) (by kernel_rfl) ?_
  refine RunU.sl hU 0 (bm 11 1) 3 (pt t) ?_
  refine RunU.sl hU 1 (bm 11 3) 4 (pt t) ?_
  refine RunU.sl hU 2 (bm 11 7) 5 (pt t) ?_
  refine RunU.rd 3 (bm 11 15) 6 (.load 30 (.tmp 5)) (pt d) [0] (Reads.load_blk hU 0 t (0) 76 [pt d, .slice La lm lc] (pt d) (by kernel_rfl) (by kernel_rfl) (by kernel_rfl)) ?_
  refine RunU.sl hU 4 (bm 11 31) 7 (pt t) ?_
  refine RunU.sl hU 5 (bm 11 63) 8 (pt t) ?_
  refine RunU.sl hU 6 (bm 11 127) 9 (.pointer (some ⟨t, 1, none⟩)) ?_
  refine RunU.rd 7 (bm 11 255) 10 (.load 28 (.tmp 9)) (.slice La lm lc) [0] (Reads.load_blk hU 0 t (1) 76 [pt d, .slice La lm lc] (.slice La lm lc) (by kernel_rfl) (by kernel_rfl) (by kernel_rfl)) ?_
  refine RunU.on (some 11) (.call { callee := .value (.func 69), args := #[.tmp 10], argTypes := #[28] }) 8 (bm 11 511) [1] (Step.cl 69 [.slice La lm lc] [] [vw La (chV ls), vws (chL ls)] [blk t 76 [pt d, .slice La lm lc], blk d 70 [.slice A n c, .slice Wa m wc, .int .i64 lf, .bool dn], row 5 1 (.slice A n c) n (nums .u8 ss), row 51 2 (.slice Wa m wc) m (chV ws), chd .u8 ws, vw La (chV ls), vws (chL ls)] (wl_head_spec n La lm lc ls (by assumption) (by assumption) (by assumption) (by assumption) (by assumption)) [] (((Lend.nil _).same 6 (vws (chL ls)) (by kernel_rfl) rfl).tells 5 (vw La (chV ls)) La (chV ls) (by kernel_rfl) (tells_vw _ _)) ?_)
  rintro _ _ ⟨A92, c93, zs4, rfl, rfl, hp5, hp6, hp7, hp8, hp9⟩
  refine orL ?_
  refine RunU.on (some 12) (.call { callee := .value (.func 52), args := #[.tmp 6, .const (.int .i64 0), .tmp 11], argTypes := #[30, 3, 23] }) 9 (bm 11 1023) [] (Step.cl 52 [pt d, .int .i64 0, .slice A92 zs4.length c93] [blk d 70 [.slice A n c, .slice Wa m wc, .int .i64 lf, .bool dn], row 5 1 (.slice A n c) n (nums .u8 ss), row 51 2 (.slice Wa m wc) m (chV ws), chd .u8 ws] [vw A92 (nums .u8 zs4)] [row 5 1 (.slice A92 zs4.length c93) zs4.length (nums .u8 zs4), blk t 76 [pt d, .slice La lm lc], vw La (chV ls), vws (chL ls)] (d_Write_spec d A n c ss Wa m wc ws lf dn 0 A92 c93 zs4 zs4.length hss (by assumption) (by assumption) (fun h => hAs (by exact h)) (by assumption) (by assumption) (by assumption) (by omega) (by assumption) (by assumption) (fun h => hWs (by exact h)) (by assumption) (by (refine ⟨?_, ?_⟩ <;> omega)) hp7 (by assumption) (by omega) (by rfl)) [2, 2, 2, 2] ((Lend.nil _).tells 0 (row 5 1 (.slice A92 zs4.length c93) zs4.length (nums .u8 zs4)) A92 (nums .u8 zs4) (by kernel_rfl) (tells_row _ _ _ _ _ _)) ?_)
  rintro _ _ ⟨e10, Wb11, m212, wc213, ws214, lf215, dn216, rfl, rfl, hp17, hp18, hp19, hp20, hp21, hp22, hp23⟩
  refine orR ?_
  refine RunU.sl hU 10 (bm 11 2047) 2 (.int .i64 e10) ?_
  refine RunU.ev [2] [(2, .int .i64 e10)] ?_
  refine RunU.dn ?_
  refine kseq_n ?_
  refine RunC.ret ?_
  refine kret_r [.int .i64 e10] [5, 0, 0, 0, 0] [blk t 76 [pt d, .slice La lm lc], blk d 70 [.slice A n c, .slice Wb11 m212 wc213, .int .i64 lf215, .bool dn216], row 5 1 (.slice A n c) n (nums .u8 ss), row 51 2 (.slice Wb11 m212 wc213) m212 (chV ws214), chd .u8 ws214] ⟨rfl, trivial⟩ (by kernel_rfl) rfl ⟨e10, Wb11, m212, wc213, ws214, lf215, dn216, rfl, rfl, (by rw [← hp5]; exact wrs_one (by assumption)), (by assumption), (by omega), (by assumption), (by assumption), (by assumption), (by assumption)⟩

theorem wl_forget_spec (t : Nat) (d : Nat) (A : Option Addr) (n : Nat) (c : Nat) (ss : List Int) (Wa : Option Addr) (m : Nat) (wc : Nat) (ws : List Ch) (lf : Int) (dn : Bool) (La : Option Addr) (lm : Nat) (lc : Nat) (hss : In .u8 ss) (hnl : ss.length = n) (hnc : n ≤ c) (hAs : 0 < n → Option.isSome A = true) (hn6 : n % 256 = 0) (hnb : n ≤ 557056) (hml : ws.length = m) (hmb : m ≤ 900000) (hok : ChOK .u8 ws) (hwk : WOK n ws) (hWs : 0 < m → Option.isSome Wa = true) (hlf : 0 ≤ lf ∧ lf < 9223372036854775808) (hn43 : 256 * 43 ≤ n) :
    CallsS Try.prog 43 [pt t] [blk t 76 [pt d, .slice La lm lc], blk d 70 [.slice A n c, .slice Wa m wc, .int .i64 lf, .bool dn], row 5 1 (.slice A n c) n (nums .u8 ss), row 51 2 (.slice Wa m wc) m (chV ws), chd .u8 ws] (fun r D => ∃ (e : Int) (Wb : Option Addr) (m2 : Nat) (wc2 : Nat) (ws2 : List Ch) (lf2 : Int) (dn2 : Bool), r = .int .i64 e ∧ D = [blk t 76 [pt d, .slice La lm lc], blk d 70 [.slice A n c, .slice Wb m2 wc2, .int .i64 lf2, .bool dn2], row 5 1 (.slice A n c) n (nums .u8 ss), row 51 2 (.slice Wb m2 wc2) m2 (chV ws2), chd .u8 ws2] ∧ ((e, dat ws2, lf2, dn2) = wrs n (dat ws) lf dn [(0, List.replicate 256 0)]) ∧ (ws2.length = m2) ∧ (m2 ≤ m + 1) ∧ (ChOK .u8 ws2) ∧ (WOK n ws2) ∧ (0 < m2 → Option.isSome Wb = true) ∧ (0 ≤ lf2 ∧ lf2 < 9223372036854775808)) := by
  refine CallsS.enter hU Try.f43 _ [.tmp 2] 9 Try.func43 rfl (by decide) rfl rfl (by kernel_rfl) fun w0 W => ?_
  refine RunC.sr ?_
  refine RunR.sl hU [] 1 1 [0, 2] [(0, pt t), (2, .int .i64 0)] 1 ?_
  refine RunR.nn ?_
  refine RunC.seq ?_
  refine RunC.regionU hU 7 [blk t 76 [pt d, .slice La lm lc]] [0] [5, 6] (bm 7 0) (by kernel_rfl) (by kernel_rfl) (by kernel_rfl) ?_
  refine RunU.sl hU 0 (bm 7 1) 3 (pt t) ?_
  refine RunU.sl hU 1 (bm 7 3) 4 (pt t) ?_
  refine RunU.sl hU 2 (bm 7 7) 5 (pt t) ?_
  refine RunU.rd 3 (bm 7 15) 6 (.load 30 (.tmp 5)) (pt d) [0] (Reads.load_blk hU 0 t (0) 76 [pt d, .slice La lm lc] (pt d) (by kernel_rfl) (by kernel_rfl) (by kernel_rfl)) ?_
  refine RunU.on (some 7) (.makeSlice 23 (.const (.int .i64 256)) (.const (.int .i64 256))) 4 (bm 7 31) [1] (Step.make_nums hU 5 1 .u8 .i64 .i64 (256) rfl rfl (by kernel_rfl) (by kernel_rfl) (by omega) (by omega) (by kernel_rfl) (fun b1 => ?_))
  have hl2 : (List.replicate 256 (0 : Int)).length = 256 := List.length_replicate
  refine orL ?_
  refine RunU.on (some 8) (.call { callee := .value (.func 52), args := #[.tmp 6, .const (.int .i64 0), .tmp 7], argTypes := #[30, 3, 23] }) 5 (bm 7 63) [] (Step.cl 52 [pt d, .int .i64 0, .slice (some ⟨b1, 0, none⟩) 256 256] [blk d 70 [.slice A n c, .slice Wa m wc, .int .i64 lf, .bool dn], row 5 1 (.slice A n c) n (nums .u8 ss), row 51 2 (.slice Wa m wc) m (chV ws), chd .u8 ws] [vw (some ⟨b1, 0, none⟩) (nums .u8 (List.replicate 256 (0 : Int)))] [row 5 1 (.slice (some ⟨b1, 0, none⟩) 256 256) 256 (nums .u8 (List.replicate 256 (0 : Int))), blk t 76 [pt d, .slice La lm lc]] (d_Write_spec d A n c ss Wa m wc ws lf dn 0 (some ⟨b1, 0, none⟩) 256 (List.replicate 256 (0 : Int)) 256 hss (by assumption) (by assumption) (fun h => hAs (by exact h)) (by assumption) (by assumption) (by assumption) (by omega) (by assumption) (by assumption) (fun h => hWs (by exact h)) (by assumption) (by (refine ⟨?_, ?_⟩ <;> omega)) (by (repeat with_reducible exact In.replicate _ _)) (by omega) (by omega) (by rfl)) [2, 2, 2, 2] ((Lend.nil _).tells 0 (row 5 1 (.slice (some ⟨b1, 0, none⟩) 256 256) 256 (nums .u8 (List.replicate 256 (0 : Int)))) (some ⟨b1, 0, none⟩) (nums .u8 (List.replicate 256 (0 : Int))) (by kernel_rfl) (tells_row _ _ _ _ _ _)) ?_)
  rintro _ _ ⟨e3, Wb4, m25, wc26, ws27, lf28, dn29, rfl, rfl, hp10, hp11, hp12, hp13, hp14, hp15, hp16⟩
  refine orR ?_
  refine RunU.sl hU 6 (bm 7 127) 2 (.int .i64 e3) ?_
  refine RunU.ev [2] [(2, .int .i64 e3)] ?_
  refine RunU.dn ?_
  refine kseq_n ?_
  refine RunC.ret ?_
  refine kret_r [.int .i64 e3] [5, 0, 0, 0, 0] [blk t 76 [pt d, .slice La lm lc], blk d 70 [.slice A n c, .slice Wb4 m25 wc26, .int .i64 lf28, .bool dn29], row 5 1 (.slice A n c) n (nums .u8 ss), row 51 2 (.slice Wb4 m25 wc26) m25 (chV ws27), chd .u8 ws27] ⟨rfl, trivial⟩ (by kernel_rfl) rfl ⟨e3, Wb4, m25, wc26, ws27, lf28, dn29, rfl, rfl, (by exact wrs_one (by assumption)), (by assumption), (by omega), (by assumption), (by assumption), (by assumption), (by assumption)⟩
end Go.Proofs.Ytaaplakahkgclaa.X7
