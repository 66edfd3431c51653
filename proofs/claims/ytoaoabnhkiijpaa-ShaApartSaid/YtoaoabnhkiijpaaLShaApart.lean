/- The law ShaApart returns true whatever it is handed: its walk, on the contracts of what it calls. -/
import Derived.Test.YtoaoabnhkiijpaaHPure
import Derived.Test.YtoaoabnhkiijpaaProg
import Derived.Test.YtoaoabnhkiijpaaX1
import Derived.Test.YtoaoabnhkiijpaaX2
import Derived.Test.YtoaoabnhkiijpaaX3
import Derived.Test.YtoaoabnhkiijpaaX4
import Derived.Test.YtoaoabnhkiijpaaX5
import Derived.Test.YtoaoabnhkiijpaaX6
import Derived.Test.YtoaoabnhkiijpaaX7
import Derived.Test.YtoaoabnhkiijpaaX8
import Derived.Test.YtoaoabnhkiijpaaX9
namespace Go.Proofs.Ytoaoabnhkiijpaa.LShaApart
open Go Go.Proofs.Ytoaoabnhkiijpaa.SL Go.Proofs.Ytoaoabnhkiijpaa.SL.W Go.Proofs.Ytoaoabnhkiijpaa.SL.C Go.Proofs.Ytoaoabnhkiijpaa.SL.H Go.Proofs.Ytoaoabnhkiijpaa.X1 Go.Proofs.Ytoaoabnhkiijpaa.X2 Go.Proofs.Ytoaoabnhkiijpaa.X3 Go.Proofs.Ytoaoabnhkiijpaa.X4 Go.Proofs.Ytoaoabnhkiijpaa.X5 Go.Proofs.Ytoaoabnhkiijpaa.X6 Go.Proofs.Ytoaoabnhkiijpaa.X7 Go.Proofs.Ytoaoabnhkiijpaa.X8 Go.Proofs.Ytoaoabnhkiijpaa.X9
set_option linter.unusedVariables false
set_option linter.unusedSimpArgs false
set_option maxRecDepth 100000
set_option maxHeartbeats 40000000
def U : Tab where
  und := [(3, .int .i64), (5, .int .u8), (22, .slice 5), (23, .int .u32), (41, .pointer 68), (55, .int .u64), (62, .array 8 23), (64, .array 64 23), (66, .array 64 5), (67, .struct #[{ name := "state", type := 62, offset := 0, embedded := false, tag := "", pkgPath := "orlop/sha", byteOffset := 0 }, { name := "k", type := 64, offset := 8, embedded := false, tag := "", pkgPath := "orlop/sha", byteOffset := 32 }, { name := "wait", type := 66, offset := 72, embedded := false, tag := "", pkgPath := "orlop/sha", byteOffset := 288 }, { name := "many", type := 3, offset := 136, embedded := false, tag := "", pkgPath := "orlop/sha", byteOffset := 352 }, { name := "all", type := 55, offset := 137, embedded := false, tag := "", pkgPath := "orlop/sha", byteOffset := 360 }]), (68, .struct #[{ name := "state", type := 62, offset := 0, embedded := false, tag := "", pkgPath := "orlop/sha", byteOffset := 0 }, { name := "k", type := 64, offset := 8, embedded := false, tag := "", pkgPath := "orlop/sha", byteOffset := 32 }, { name := "wait", type := 66, offset := 72, embedded := false, tag := "", pkgPath := "orlop/sha", byteOffset := 288 }, { name := "many", type := 3, offset := 136, embedded := false, tag := "", pkgPath := "orlop/sha", byteOffset := 352 }, { name := "all", type := 55, offset := 137, embedded := false, tag := "", pkgPath := "orlop/sha", byteOffset := 360 }])]
  fld := [((67, 0), (0, 62)), ((67, 1), (8, 64)), ((67, 2), (72, 66)), ((67, 3), (136, 3)), ((67, 4), (137, 55)), ((68, 0), (0, 62)), ((68, 1), (8, 64)), ((68, 2), (72, 66)), ((68, 3), (136, 3)), ((68, 4), (137, 55))]
  sz := [(3, 1), (5, 1), (22, 1), (23, 1), (41, 1), (55, 1), (62, 8), (64, 64), (66, 64), (67, 138), (68, 138)]
  ti := [(3, (1, 8, .int .i64 0)), (5, (1, 1, .int .u8 0)), (22, (1, 24, .slice none 0 0)), (23, (1, 4, .int .u32 0)), (41, (1, 8, .pointer none)), (55, (1, 8, .int .u64 0)), (62, (8, 32, .agg #[.int .u32 0, .int .u32 0, .int .u32 0, .int .u32 0, .int .u32 0, .int .u32 0, .int .u32 0, .int .u32 0])), (64, (64, 256, .agg #[.int .u32 0, .int .u32 0, .int .u32 0, .int .u32 0, .int .u32 0, .int .u32 0, .int .u32 0, .int .u32 0, .int .u32 0, .int .u32 0, .int .u32 0, .int .u32 0, .int .u32 0, .int .u32 0, .int .u32 0, .int .u32 0, .int .u32 0, .int .u32 0, .int .u32 0, .int .u32 0, .int .u32 0, .int .u32 0, .int .u32 0, .int .u32 0, .int .u32 0, .int .u32 0, .int .u32 0, .int .u32 0, .int .u32 0, .int .u32 0, .int .u32 0, .int .u32 0, .int .u32 0, .int .u32 0, .int .u32 0, .int .u32 0, .int .u32 0, .int .u32 0, .int .u32 0, .int .u32 0, .int .u32 0, .int .u32 0, .int .u32 0, .int .u32 0, .int .u32 0, .int .u32 0, .int .u32 0, .int .u32 0, .int .u32 0, .int .u32 0, .int .u32 0, .int .u32 0, .int .u32 0, .int .u32 0, .int .u32 0, .int .u32 0, .int .u32 0, .int .u32 0, .int .u32 0, .int .u32 0, .int .u32 0, .int .u32 0, .int .u32 0, .int .u32 0])), (66, (64, 64, .agg #[.int .u8 0, .int .u8 0, .int .u8 0, .int .u8 0, .int .u8 0, .int .u8 0, .int .u8 0, .int .u8 0, .int .u8 0, .int .u8 0, .int .u8 0, .int .u8 0, .int .u8 0, .int .u8 0, .int .u8 0, .int .u8 0, .int .u8 0, .int .u8 0, .int .u8 0, .int .u8 0, .int .u8 0, .int .u8 0, .int .u8 0, .int .u8 0, .int .u8 0, .int .u8 0, .int .u8 0, .int .u8 0, .int .u8 0, .int .u8 0, .int .u8 0, .int .u8 0, .int .u8 0, .int .u8 0, .int .u8 0, .int .u8 0, .int .u8 0, .int .u8 0, .int .u8 0, .int .u8 0, .int .u8 0, .int .u8 0, .int .u8 0, .int .u8 0, .int .u8 0, .int .u8 0, .int .u8 0, .int .u8 0, .int .u8 0, .int .u8 0, .int .u8 0, .int .u8 0, .int .u8 0, .int .u8 0, .int .u8 0, .int .u8 0, .int .u8 0, .int .u8 0, .int .u8 0, .int .u8 0, .int .u8 0, .int .u8 0, .int .u8 0, .int .u8 0])), (67, (138, 368, .agg #[.int .u32 0, .int .u32 0, .int .u32 0, .int .u32 0, .int .u32 0, .int .u32 0, .int .u32 0, .int .u32 0, .int .u32 0, .int .u32 0, .int .u32 0, .int .u32 0, .int .u32 0, .int .u32 0, .int .u32 0, .int .u32 0, .int .u32 0, .int .u32 0, .int .u32 0, .int .u32 0, .int .u32 0, .int .u32 0, .int .u32 0, .int .u32 0, .int .u32 0, .int .u32 0, .int .u32 0, .int .u32 0, .int .u32 0, .int .u32 0, .int .u32 0, .int .u32 0, .int .u32 0, .int .u32 0, .int .u32 0, .int .u32 0, .int .u32 0, .int .u32 0, .int .u32 0, .int .u32 0, .int .u32 0, .int .u32 0, .int .u32 0, .int .u32 0, .int .u32 0, .int .u32 0, .int .u32 0, .int .u32 0, .int .u32 0, .int .u32 0, .int .u32 0, .int .u32 0, .int .u32 0, .int .u32 0, .int .u32 0, .int .u32 0, .int .u32 0, .int .u32 0, .int .u32 0, .int .u32 0, .int .u32 0, .int .u32 0, .int .u32 0, .int .u32 0, .int .u32 0, .int .u32 0, .int .u32 0, .int .u32 0, .int .u32 0, .int .u32 0, .int .u32 0, .int .u32 0, .int .u8 0, .int .u8 0, .int .u8 0, .int .u8 0, .int .u8 0, .int .u8 0, .int .u8 0, .int .u8 0, .int .u8 0, .int .u8 0, .int .u8 0, .int .u8 0, .int .u8 0, .int .u8 0, .int .u8 0, .int .u8 0, .int .u8 0, .int .u8 0, .int .u8 0, .int .u8 0, .int .u8 0, .int .u8 0, .int .u8 0, .int .u8 0, .int .u8 0, .int .u8 0, .int .u8 0, .int .u8 0, .int .u8 0, .int .u8 0, .int .u8 0, .int .u8 0, .int .u8 0, .int .u8 0, .int .u8 0, .int .u8 0, .int .u8 0, .int .u8 0, .int .u8 0, .int .u8 0, .int .u8 0, .int .u8 0, .int .u8 0, .int .u8 0, .int .u8 0, .int .u8 0, .int .u8 0, .int .u8 0, .int .u8 0, .int .u8 0, .int .u8 0, .int .u8 0, .int .u8 0, .int .u8 0, .int .u8 0, .int .u8 0, .int .u8 0, .int .u8 0, .int .u8 0, .int .u8 0, .int .u8 0, .int .u8 0, .int .u8 0, .int .u8 0, .int .i64 0, .int .u64 0])), (68, (138, 368, .agg #[.int .u32 0, .int .u32 0, .int .u32 0, .int .u32 0, .int .u32 0, .int .u32 0, .int .u32 0, .int .u32 0, .int .u32 0, .int .u32 0, .int .u32 0, .int .u32 0, .int .u32 0, .int .u32 0, .int .u32 0, .int .u32 0, .int .u32 0, .int .u32 0, .int .u32 0, .int .u32 0, .int .u32 0, .int .u32 0, .int .u32 0, .int .u32 0, .int .u32 0, .int .u32 0, .int .u32 0, .int .u32 0, .int .u32 0, .int .u32 0, .int .u32 0, .int .u32 0, .int .u32 0, .int .u32 0, .int .u32 0, .int .u32 0, .int .u32 0, .int .u32 0, .int .u32 0, .int .u32 0, .int .u32 0, .int .u32 0, .int .u32 0, .int .u32 0, .int .u32 0, .int .u32 0, .int .u32 0, .int .u32 0, .int .u32 0, .int .u32 0, .int .u32 0, .int .u32 0, .int .u32 0, .int .u32 0, .int .u32 0, .int .u32 0, .int .u32 0, .int .u32 0, .int .u32 0, .int .u32 0, .int .u32 0, .int .u32 0, .int .u32 0, .int .u32 0, .int .u32 0, .int .u32 0, .int .u32 0, .int .u32 0, .int .u32 0, .int .u32 0, .int .u32 0, .int .u32 0, .int .u8 0, .int .u8 0, .int .u8 0, .int .u8 0, .int .u8 0, .int .u8 0, .int .u8 0, .int .u8 0, .int .u8 0, .int .u8 0, .int .u8 0, .int .u8 0, .int .u8 0, .int .u8 0, .int .u8 0, .int .u8 0, .int .u8 0, .int .u8 0, .int .u8 0, .int .u8 0, .int .u8 0, .int .u8 0, .int .u8 0, .int .u8 0, .int .u8 0, .int .u8 0, .int .u8 0, .int .u8 0, .int .u8 0, .int .u8 0, .int .u8 0, .int .u8 0, .int .u8 0, .int .u8 0, .int .u8 0, .int .u8 0, .int .u8 0, .int .u8 0, .int .u8 0, .int .u8 0, .int .u8 0, .int .u8 0, .int .u8 0, .int .u8 0, .int .u8 0, .int .u8 0, .int .u8 0, .int .u8 0, .int .u8 0, .int .u8 0, .int .u8 0, .int .u8 0, .int .u8 0, .int .u8 0, .int .u8 0, .int .u8 0, .int .u8 0, .int .u8 0, .int .u8 0, .int .u8 0, .int .u8 0, .int .u8 0, .int .u8 0, .int .u8 0, .int .i64 0, .int .u64 0]))]
  bld := [(67, [(0, 8), (8, 64), (72, 64), (136, 1), (137, 1)]), (68, [(0, 8), (8, 64), (72, 64), (136, 1), (137, 1)])]

theorem hU : U.OK Try.prog where
  und := by
    intro p hp
    simp only [U, List.mem_cons, List.not_mem_nil, or_false] at hp
    rcases hp with rfl | rfl | rfl | rfl | rfl | rfl | rfl | rfl | rfl | rfl | rfl
    · exact Try.underlying3
    · exact Try.underlying5
    · exact Try.underlying22
    · exact Try.underlying23
    · exact Try.underlying41
    · exact Try.underlying55
    · exact Try.underlying62
    · exact Try.underlying64
    · exact Try.underlying66
    · exact Try.underlying67
    · exact Try.underlying68
  fld := by
    intro p hp
    simp only [U, List.mem_cons, List.not_mem_nil, or_false] at hp
    rcases hp with rfl | rfl | rfl | rfl | rfl | rfl | rfl | rfl | rfl | rfl
    · exact ⟨_, _, Try.underlying67, rfl, rfl, rfl, Try.prog.types[62]!, by kernel_rfl, by decide +kernel⟩
    · exact ⟨_, _, Try.underlying67, rfl, rfl, rfl, Try.prog.types[64]!, by kernel_rfl, by decide +kernel⟩
    · exact ⟨_, _, Try.underlying67, rfl, rfl, rfl, Try.prog.types[66]!, by kernel_rfl, by decide +kernel⟩
    · exact ⟨_, _, Try.underlying67, rfl, rfl, rfl, Try.prog.types[3]!, by kernel_rfl, by decide +kernel⟩
    · exact ⟨_, _, Try.underlying67, rfl, rfl, rfl, Try.prog.types[55]!, by kernel_rfl, by decide +kernel⟩
    · exact ⟨_, _, Try.underlying68, rfl, rfl, rfl, Try.prog.types[62]!, by kernel_rfl, by decide +kernel⟩
    · exact ⟨_, _, Try.underlying68, rfl, rfl, rfl, Try.prog.types[64]!, by kernel_rfl, by decide +kernel⟩
    · exact ⟨_, _, Try.underlying68, rfl, rfl, rfl, Try.prog.types[66]!, by kernel_rfl, by decide +kernel⟩
    · exact ⟨_, _, Try.underlying68, rfl, rfl, rfl, Try.prog.types[3]!, by kernel_rfl, by decide +kernel⟩
    · exact ⟨_, _, Try.underlying68, rfl, rfl, rfl, Try.prog.types[55]!, by kernel_rfl, by decide +kernel⟩
  sz := by
    intro p hp
    simp only [U, List.mem_cons, List.not_mem_nil, or_false] at hp
    rcases hp with rfl | rfl | rfl | rfl | rfl | rfl | rfl | rfl | rfl | rfl | rfl
    · exact ⟨Try.prog.types[3]!, by kernel_rfl, by kernel_rfl⟩
    · exact ⟨Try.prog.types[5]!, by kernel_rfl, by kernel_rfl⟩
    · exact ⟨Try.prog.types[22]!, by kernel_rfl, by kernel_rfl⟩
    · exact ⟨Try.prog.types[23]!, by kernel_rfl, by kernel_rfl⟩
    · exact ⟨Try.prog.types[41]!, by kernel_rfl, by kernel_rfl⟩
    · exact ⟨Try.prog.types[55]!, by kernel_rfl, by kernel_rfl⟩
    · exact ⟨Try.prog.types[62]!, by kernel_rfl, by kernel_rfl⟩
    · exact ⟨Try.prog.types[64]!, by kernel_rfl, by kernel_rfl⟩
    · exact ⟨Try.prog.types[66]!, by kernel_rfl, by kernel_rfl⟩
    · exact ⟨Try.prog.types[67]!, by kernel_rfl, by kernel_rfl⟩
    · exact ⟨Try.prog.types[68]!, by kernel_rfl, by kernel_rfl⟩
  ti := by
    intro p hp
    simp only [U, List.mem_cons, List.not_mem_nil, or_false] at hp
    rcases hp with rfl | rfl | rfl | rfl | rfl | rfl | rfl | rfl | rfl | rfl | rfl
    · exact ⟨Try.prog.types[3]!, by kernel_rfl, by kernel_rfl, by kernel_rfl, by kernel_rfl⟩
    · exact ⟨Try.prog.types[5]!, by kernel_rfl, by kernel_rfl, by kernel_rfl, by kernel_rfl⟩
    · exact ⟨Try.prog.types[22]!, by kernel_rfl, by kernel_rfl, by kernel_rfl, by kernel_rfl⟩
    · exact ⟨Try.prog.types[23]!, by kernel_rfl, by kernel_rfl, by kernel_rfl, by kernel_rfl⟩
    · exact ⟨Try.prog.types[41]!, by kernel_rfl, by kernel_rfl, by kernel_rfl, by kernel_rfl⟩
    · exact ⟨Try.prog.types[55]!, by kernel_rfl, by kernel_rfl, by kernel_rfl, by kernel_rfl⟩
    · exact ⟨Try.prog.types[62]!, by kernel_rfl, by kernel_rfl, by kernel_rfl, by kernel_rfl⟩
    · exact ⟨Try.prog.types[64]!, by kernel_rfl, by kernel_rfl, by kernel_rfl, by kernel_rfl⟩
    · exact ⟨Try.prog.types[66]!, by kernel_rfl, by kernel_rfl, by kernel_rfl, by kernel_rfl⟩
    · exact ⟨Try.prog.types[67]!, by kernel_rfl, by kernel_rfl, by kernel_rfl, by kernel_rfl⟩
    · exact ⟨Try.prog.types[68]!, by kernel_rfl, by kernel_rfl, by kernel_rfl, by kernel_rfl⟩
  bld := by
    intro p hp
    simp only [U, List.mem_cons, List.not_mem_nil, or_false] at hp
    rcases hp with rfl | rfl
    · exact ⟨_, Try.underlying67, by kernel_rfl⟩
    · exact ⟨_, Try.underlying68, by kernel_rfl⟩
  mixed := by kernel_rfl

theorem l2_ShaApart_spec (A : Option Addr) (c : Nat) (bs : List Int) (A3 : Option Addr) (c3 : Nat) (ys : List Int) (l_bs : Nat) (l_ys : Nat) (hb : In .u8 bs) (hbc : bs.length ≤ c) (hbl : bs.length ≤ 140737488351232) (hy : In .u8 ys) (hyc : ys.length ≤ c3) (hyl : ys.length ≤ 140737488351232) (hl_bs : bs.length = l_bs) (hl_ys : ys.length = l_ys) :
    CallsS Try.prog 10 [.slice A l_bs c, .slice A3 l_ys c3] [vw A (nums .u8 bs), vw A3 (nums .u8 ys)] (fun r D => r = .bool true ∧ D = []) := by
  subst hl_bs
  subst hl_ys
  refine CallsS.enter hU Try.f10 _ [.tmp 4] 52 Try.func10 rfl (by decide) rfl rfl (by kernel_rfl) fun w0 W => ?_
  refine RunC.know (p := 0 < bs.length → Option.isSome A = true) (fun w hs => vw_some hs 0 rfl (by simp [nums_length])) (fun hA1 => ?_)
  refine RunC.know (p := 0 < ys.length → Option.isSome A3 = true) (fun w hs => vw_some hs 1 rfl (by simp [nums_length])) (fun hA2 => ?_)
  refine RunC.seq ?_
  refine RunC.region ?_
  refine RunR.sil hU [] 1 1 [0, 1, 4] [(0, .slice A bs.length c), (1, .slice A3 ys.length c3), (4, .bool false)] ((True) ∧ True) rfl (by kernel_rfl) ⟨trivial, trivial⟩ ?_
  refine RunR.done (by kernel_rfl) ?_
  refine kseq_n ?_
  refine RunC.seq ?_
  refine RunC.seq ?_
  refine RunC.region ?_
  refine RunR.step (dst := some 7) (op := .call { callee := .value (.func 21), args := #[], argTypes := #[] }) (by kernel_rfl) (Step.call 21 [] (by kernel_rfl) (by kernel_rfl) [] [] [vw A (nums .u8 bs), vw A3 (nums .u8 ys)] (l2_awake_spec) [] (by kernel_rfl) (Lend.nil _) ?_)
  rintro _ _ ⟨rfl, rfl⟩
  refine RunR.sil hU [] 1 2 [0, 1, 4, 8] [(0, .slice A bs.length c), (1, .slice A3 ys.length c3), (4, .bool false), (8, .bool false)] ((True) ∧ True) rfl (by kernel_rfl) ⟨trivial, trivial⟩ ?_
  refine RunR.done (by kernel_rfl) ?_
  refine kseq_n ?_
  refine RunC.cond (b := false) (by kernel_rfl) (fun h => by cases h) (fun _ => ?_)
  refine RunC.skip ?_
  refine kseq_n ?_
  refine RunC.seq ?_
  refine RunC.seq ?_
  refine RunC.region ?_
  refine RunR.sil hU [] 4 4 [0, 1, 4, 12] [(0, .slice A bs.length c), (1, .slice A3 ys.length c3), (4, .bool false), (12, .bool (decide (((bs.length : Nat) : Int) > 2048)))] ((True) ∧ (True) ∧ (True) ∧ (True) ∧ True) rfl (by kernel_rfl) ⟨trivial, trivial, trivial, trivial, trivial⟩ ?_
  refine RunR.env [0, 1, 4, 12] [(0, .slice A bs.length c), (1, .slice A3 ys.length c3), (4, .bool false), (12, .bool (decide (((bs.length : Nat) : Int) > 2048)))] (by kernel_rfl) ?_
  by_cases h3 : ((bs.length : Nat) : Int) > 2048
  · skip
    refine RunR.enveq [(0, .slice A bs.length c), (1, .slice A3 ys.length c3), (4, .bool false), (12, .bool true)] (by rw [decide_eq_true h3]; try rfl) ?_
    refine RunR.sil hU [] 4 8 [0, 1, 4, 16] [(0, .slice A bs.length c), (1, .slice A3 ys.length c3), (4, .bool false), (16, .bool true)] ((True) ∧ True) rfl (by kernel_rfl) ⟨trivial, trivial⟩ ?_
    refine RunR.done (by kernel_rfl) ?_
    refine kseq_n ?_
    refine RunC.cond (b := true) (by kernel_rfl) (fun _ => ?_) (fun h => by cases h)
    refine RunC.seq ?_
    refine RunC.region ?_
    refine RunR.sil hU [] 1 1 [0, 1, 4] [(0, .slice A bs.length c), (1, .slice A3 ys.length c3), (4, .bool true)] ((True) ∧ True) rfl (by kernel_rfl) ⟨trivial, trivial⟩ ?_
    refine RunR.done (by kernel_rfl) ?_
    refine kseq_n ?_
    refine RunC.ret ?_
    refine kseq_r ?_
    refine kret_r [.bool true] [] [] ⟨rfl, trivial⟩ (by kernel_rfl) rfl ⟨rfl, rfl⟩
  · skip
    refine RunR.enveq [(0, .slice A bs.length c), (1, .slice A3 ys.length c3), (4, .bool false), (12, .bool false)] (by rw [decide_eq_false h3]; try rfl) ?_
    refine RunR.sil hU [] 4 8 [0, 1, 4, 16] [(0, .slice A bs.length c), (1, .slice A3 ys.length c3), (4, .bool false), (16, .bool (decide (((ys.length : Nat) : Int) > 2048)))] ((True) ∧ (True) ∧ (True) ∧ (True) ∧ True) rfl (by kernel_rfl) ⟨trivial, trivial, trivial, trivial, trivial⟩ ?_
    refine RunR.done (by kernel_rfl) ?_
    refine kseq_n ?_
    refine RunC.condp (((ys.length : Nat) : Int) > 2048) (by kernel_rfl) (fun h4 => ?_) (fun h4 => ?_)
    · skip
      refine RunC.seq ?_
      refine RunC.region ?_
      refine RunR.sil hU [] 1 1 [0, 1, 4] [(0, .slice A bs.length c), (1, .slice A3 ys.length c3), (4, .bool true)] ((True) ∧ True) rfl (by kernel_rfl) ⟨trivial, trivial⟩ ?_
      refine RunR.done (by kernel_rfl) ?_
      refine kseq_n ?_
      refine RunC.ret ?_
      refine kseq_r ?_
      refine kret_r [.bool true] [] [] ⟨rfl, trivial⟩ (by kernel_rfl) rfl ⟨rfl, rfl⟩
    · skip
      refine RunC.skip ?_
      refine kseq_n ?_
      refine RunC.seq ?_
      refine RunC.region ?_
      refine RunR.step (dst := some 17) (op := .call { callee := .value (.func 24), args := #[], argTypes := #[] }) (by kernel_rfl) (Step.call 24 [] (by kernel_rfl) (by kernel_rfl) [] [] [vw A (nums .u8 bs), vw A3 (nums .u8 ys)] (h_New_spec) [] (by kernel_rfl) (Lend.nil _) ?_)
      rintro _ _ ⟨b5, rfl, rfl⟩
      refine RunR.sil hU [] 1 2 [0, 1, 4, 5] [(0, .slice A bs.length c), (1, .slice A3 ys.length c3), (4, .bool false), (5, .pointer (some ⟨b5, 0, none⟩))] ((True) ∧ True) rfl (by kernel_rfl) ⟨trivial, trivial⟩ ?_
      refine RunR.done (by kernel_rfl) ?_
      refine kseq_n ?_
      refine RunC.seq ?_
      refine RunC.region ?_
      refine RunR.step (dst := some 18) (op := .call { callee := .value (.func 24), args := #[], argTypes := #[] }) (by kernel_rfl) (Step.call 24 [] (by kernel_rfl) (by kernel_rfl) [] [] [blk b5 68 (nums .u32 h0 ++ (nums .u32 ks ++ (nums .u8 (List.replicate 64 (0 : Int)) ++ (([.int .i64 0] : List Value) ++ ([.int .u64 0] : List Value))))), vw A (nums .u8 bs), vw A3 (nums .u8 ys)] (h_New_spec) [] (by kernel_rfl) (Lend.nil _) ?_)
      rintro _ _ ⟨b6, rfl, rfl⟩
      refine RunR.sil hU [] 1 2 [0, 1, 4, 5, 6] [(0, .slice A bs.length c), (1, .slice A3 ys.length c3), (4, .bool false), (5, .pointer (some ⟨b5, 0, none⟩)), (6, .pointer (some ⟨b6, 0, none⟩))] ((True) ∧ True) rfl (by kernel_rfl) ⟨trivial, trivial⟩ ?_
      refine RunR.done (by kernel_rfl) ?_
      refine kseq_n ?_
      refine RunC.seq ?_
      refine RunC.seq ?_
      refine RunC.region ?_
      refine RunR.sil hU [] 6 6 [0, 1, 4, 5, 6, 24] [(0, .slice A bs.length c), (1, .slice A3 ys.length c3), (4, .bool false), (5, .pointer (some ⟨b5, 0, none⟩)), (6, .pointer (some ⟨b6, 0, none⟩)), (24, .bool false)] ((True) ∧ (True) ∧ (True) ∧ (True) ∧ (True) ∧ (True) ∧ True) rfl (by kernel_rfl) ⟨trivial, trivial, trivial, trivial, trivial, trivial, trivial⟩ ?_
      refine RunR.done (by kernel_rfl) ?_
      refine kseq_n ?_
      refine RunC.cond (b := false) (by kernel_rfl) (fun h => by cases h) (fun _ => ?_)
      refine RunC.skip ?_
      refine kseq_n ?_
      refine RunC.seq ?_
      refine RunC.region ?_
      refine RunR.sil hU [] 2 2 [0, 1, 4, 5, 6, 25, 26] [(0, .slice A bs.length c), (1, .slice A3 ys.length c3), (4, .bool false), (5, .pointer (some ⟨b5, 0, none⟩)), (6, .pointer (some ⟨b6, 0, none⟩)), (25, .pointer (some ⟨b5, 0, none⟩)), (26, .slice A bs.length c)] ((True) ∧ (True) ∧ True) rfl (by kernel_rfl) ⟨trivial, trivial, trivial⟩ ?_
      refine RunR.step (dst := some 27) (op := .call { callee := .value (.func 25), args := #[.tmp 25, .tmp 26], argTypes := #[41, 22] }) (by kernel_rfl) (Step.call 25 [.pointer (some ⟨b5, 0, none⟩), .slice A bs.length c] (by kernel_rfl) (by kernel_rfl) [blk b5 68 (nums .u32 h0 ++ (nums .u32 ks ++ (nums .u8 (List.replicate 64 (0 : Int)) ++ (([.int .i64 0] : List Value) ++ ([.int .u64 0] : List Value)))))] [vw A (nums .u8 bs)] [blk b6 68 (nums .u32 h0 ++ (nums .u32 ks ++ (nums .u8 (List.replicate 64 (0 : Int)) ++ (([.int .i64 0] : List Value) ++ ([.int .u64 0] : List Value))))), vw A (nums .u8 bs), vw A3 (nums .u8 ys)] (h_Add_spec b5 h0 (List.replicate 64 (0 : Int)) 0 0 ([] : List Int) A c bs bs.length (by exact hash0) hb (by first | assumption | omega | (simp only [List.length_append, List.length_cons, List.length_nil, List.length_set, List.length_replicate, List.length_take, List.length_drop]; omega) | (simp only [fits] at *; omega) | (simp only [List.length_append, List.length_cons, List.length_nil, List.length_set, List.length_replicate, List.length_take, List.length_drop] at *; omega) | (simp; done) | decide) (by first | assumption | omega | (simp only [List.length_append, List.length_cons, List.length_nil, List.length_set, List.length_replicate, List.length_take, List.length_drop]; omega) | (simp only [fits] at *; omega) | (simp only [List.length_append, List.length_cons, List.length_nil, List.length_set, List.length_replicate, List.length_take, List.length_drop] at *; omega) | (simp; done) | decide) (by first | rfl | assumption | omega | (simp only [List.length_append, List.length_cons, List.length_nil, List.length_set, List.length_replicate, List.length_take, List.length_drop]; omega) | (simp; done))) [1] (by kernel_rfl) ((Lend.nil _).tells 1 (vw A (nums .u8 bs)) A (nums .u8 bs) (by kernel_rfl) (tells_vw _ _)) ?_)
      rintro _ _ ⟨s27, w28, m29, n210, rfl, rfl, hp11, hp12, hp13, hp14⟩
      refine RunR.done (by kernel_rfl) ?_
      refine kseq_n ?_
      refine RunC.seq ?_
      refine RunC.region ?_
      refine RunR.sil hU [] 2 2 [0, 1, 4, 5, 6, 28, 29] [(0, .slice A bs.length c), (1, .slice A3 ys.length c3), (4, .bool false), (5, .pointer (some ⟨b5, 0, none⟩)), (6, .pointer (some ⟨b6, 0, none⟩)), (28, .pointer (some ⟨b6, 0, none⟩)), (29, .slice A3 ys.length c3)] ((True) ∧ (True) ∧ True) rfl (by kernel_rfl) ⟨trivial, trivial, trivial⟩ ?_
      refine RunR.step (dst := some 30) (op := .call { callee := .value (.func 25), args := #[.tmp 28, .tmp 29], argTypes := #[41, 22] }) (by kernel_rfl) (Step.call 25 [.pointer (some ⟨b6, 0, none⟩), .slice A3 ys.length c3] (by kernel_rfl) (by kernel_rfl) [blk b6 68 (nums .u32 h0 ++ (nums .u32 ks ++ (nums .u8 (List.replicate 64 (0 : Int)) ++ (([.int .i64 0] : List Value) ++ ([.int .u64 0] : List Value)))))] [vw A3 (nums .u8 ys)] [blk b5 68 (nums .u32 s27 ++ (nums .u32 ks ++ (nums .u8 w28 ++ (([.int .i64 m29] : List Value) ++ ([.int .u64 n210] : List Value))))), vw A (nums .u8 bs), vw A3 (nums .u8 ys)] (h_Add_spec b6 h0 (List.replicate 64 (0 : Int)) 0 0 ([] : List Int) A3 c3 ys ys.length (by exact hash0) hy (by first | assumption | omega | (simp only [List.length_append, List.length_cons, List.length_nil, List.length_set, List.length_replicate, List.length_take, List.length_drop]; omega) | (simp only [fits] at *; omega) | (simp only [List.length_append, List.length_cons, List.length_nil, List.length_set, List.length_replicate, List.length_take, List.length_drop] at *; omega) | (simp; done) | decide) (by first | assumption | omega | (simp only [List.length_append, List.length_cons, List.length_nil, List.length_set, List.length_replicate, List.length_take, List.length_drop]; omega) | (simp only [fits] at *; omega) | (simp only [List.length_append, List.length_cons, List.length_nil, List.length_set, List.length_replicate, List.length_take, List.length_drop] at *; omega) | (simp; done) | decide) (by first | rfl | assumption | omega | (simp only [List.length_append, List.length_cons, List.length_nil, List.length_set, List.length_replicate, List.length_take, List.length_drop]; omega) | (simp; done))) [1] (by kernel_rfl) ((Lend.nil _).tells 2 (vw A3 (nums .u8 ys)) A3 (nums .u8 ys) (by kernel_rfl) (tells_vw _ _)) ?_)
      rintro _ _ ⟨s215, w216, m217, n218, rfl, rfl, hp19, hp20, hp21, hp22⟩
      refine RunR.done (by kernel_rfl) ?_
      refine kseq_n ?_
      refine RunC.seq ?_
      refine RunC.region ?_
      refine RunR.sil hU [] 1 1 [0, 1, 4, 5, 6, 31] [(0, .slice A bs.length c), (1, .slice A3 ys.length c3), (4, .bool false), (5, .pointer (some ⟨b5, 0, none⟩)), (6, .pointer (some ⟨b6, 0, none⟩)), (31, .pointer (some ⟨b5, 0, none⟩))] ((True) ∧ True) rfl (by kernel_rfl) ⟨trivial, trivial⟩ ?_
      refine RunR.turn ([vw none (nums .u8 ([] : List Int)), blk b6 68 (nums .u32 s215 ++ (nums .u32 ks ++ (nums .u8 w216 ++ (([.int .i64 m217] : List Value) ++ ([.int .u64 n218] : List Value))))), blk b5 68 (nums .u32 s27 ++ (nums .u32 ks ++ (nums .u8 w28 ++ (([.int .i64 m29] : List Value) ++ ([.int .u64 n210] : List Value))))), vw A (nums .u8 bs), vw A3 (nums .u8 ys)]) (fun w hs => hs.nil_vw none) ?_
      refine RunR.step (dst := some 32) (op := .call { callee := .value (.func 25), args := #[.tmp 31, .const (.slice none 0 0)], argTypes := #[41, 22] }) (by kernel_rfl) (Step.call 25 [.pointer (some ⟨b5, 0, none⟩), .slice none 0 0] (by kernel_rfl) (by kernel_rfl) [blk b5 68 (nums .u32 s27 ++ (nums .u32 ks ++ (nums .u8 w28 ++ (([.int .i64 m29] : List Value) ++ ([.int .u64 n210] : List Value)))))] [vw none (nums .u8 ([] : List Int))] [vw none (nums .u8 ([] : List Int)), blk b6 68 (nums .u32 s215 ++ (nums .u32 ks ++ (nums .u8 w216 ++ (([.int .i64 m217] : List Value) ++ ([.int .u64 n218] : List Value))))), vw A (nums .u8 bs), vw A3 (nums .u8 ys)] (h_Add_spec b5 s27 w28 m29 n210 (([] : List Int) ++ bs) none 0 ([] : List Int) 0 (by first | assumption | omega | (simp only [List.length_append, List.length_cons, List.length_nil, List.length_set, List.length_replicate, List.length_take, List.length_drop]; omega) | (simp only [fits] at *; omega) | (simp only [List.length_append, List.length_cons, List.length_nil, List.length_set, List.length_replicate, List.length_take, List.length_drop] at *; omega) | (simp; done) | decide) (by (repeat first | assumption | (simp only [fits]; omega) | with_reducible first | exact fits_wrap _ _ | exact fits_bits2 _ _ _ _ | exact In.nil _ | exact In.sb _ | exact In.replicate _ _ | apply In.append | apply In.cons | apply In.set | apply In.take | apply In.drop | apply In.rev)) (by first | assumption | omega | (simp only [List.length_append, List.length_cons, List.length_nil, List.length_set, List.length_replicate, List.length_take, List.length_drop]; omega) | (simp only [fits] at *; omega) | (simp only [List.length_append, List.length_cons, List.length_nil, List.length_set, List.length_replicate, List.length_take, List.length_drop] at *; omega) | (simp; done) | decide) (by first | assumption | omega | (simp only [List.length_append, List.length_cons, List.length_nil, List.length_set, List.length_replicate, List.length_take, List.length_drop]; omega) | (simp only [fits] at *; omega) | (simp only [List.length_append, List.length_cons, List.length_nil, List.length_set, List.length_replicate, List.length_take, List.length_drop] at *; omega) | (simp; done) | decide) (by first | rfl | assumption | omega | (simp only [List.length_append, List.length_cons, List.length_nil, List.length_set, List.length_replicate, List.length_take, List.length_drop]; omega) | (simp; done))) [2] (by kernel_rfl) ((Lend.nil _).tells 0 (vw none (nums .u8 ([] : List Int))) none (nums .u8 ([] : List Int)) (by kernel_rfl) (tells_vw _ _)) ?_)
      rintro _ _ ⟨s223, w224, m225, n226, rfl, rfl, hp27, hp28, hp29, hp30⟩
      refine RunR.done (by kernel_rfl) ?_
      refine kseq_n ?_
      refine RunC.seq ?_
      refine RunC.region ?_
      refine RunR.sil hU [] 2 2 [0, 1, 4, 5, 6, 33, 34] [(0, .slice A bs.length c), (1, .slice A3 ys.length c3), (4, .bool false), (5, .pointer (some ⟨b5, 0, none⟩)), (6, .pointer (some ⟨b6, 0, none⟩)), (33, .pointer (some ⟨b6, 0, none⟩)), (34, .slice A bs.length c)] ((True) ∧ (True) ∧ True) rfl (by kernel_rfl) ⟨trivial, trivial, trivial⟩ ?_
      refine RunR.step (dst := some 35) (op := .call { callee := .value (.func 25), args := #[.tmp 33, .tmp 34], argTypes := #[41, 22] }) (by kernel_rfl) (Step.call 25 [.pointer (some ⟨b6, 0, none⟩), .slice A bs.length c] (by kernel_rfl) (by kernel_rfl) [blk b6 68 (nums .u32 s215 ++ (nums .u32 ks ++ (nums .u8 w216 ++ (([.int .i64 m217] : List Value) ++ ([.int .u64 n218] : List Value)))))] [vw A (nums .u8 bs)] [blk b5 68 (nums .u32 s223 ++ (nums .u32 ks ++ (nums .u8 w224 ++ (([.int .i64 m225] : List Value) ++ ([.int .u64 n226] : List Value))))), vw none (nums .u8 ([] : List Int)), vw A (nums .u8 bs), vw A3 (nums .u8 ys)] (h_Add_spec b6 s215 w216 m217 n218 (([] : List Int) ++ ys) A c bs bs.length (by first | assumption | omega | (simp only [List.length_append, List.length_cons, List.length_nil, List.length_set, List.length_replicate, List.length_take, List.length_drop]; omega) | (simp only [fits] at *; omega) | (simp only [List.length_append, List.length_cons, List.length_nil, List.length_set, List.length_replicate, List.length_take, List.length_drop] at *; omega) | (simp; done) | decide) hb (by first | assumption | omega | (simp only [List.length_append, List.length_cons, List.length_nil, List.length_set, List.length_replicate, List.length_take, List.length_drop]; omega) | (simp only [fits] at *; omega) | (simp only [List.length_append, List.length_cons, List.length_nil, List.length_set, List.length_replicate, List.length_take, List.length_drop] at *; omega) | (simp; done) | decide) (by first | assumption | omega | (simp only [List.length_append, List.length_cons, List.length_nil, List.length_set, List.length_replicate, List.length_take, List.length_drop]; omega) | (simp only [fits] at *; omega) | (simp only [List.length_append, List.length_cons, List.length_nil, List.length_set, List.length_replicate, List.length_take, List.length_drop] at *; omega) | (simp; done) | decide) (by first | rfl | assumption | omega | (simp only [List.length_append, List.length_cons, List.length_nil, List.length_set, List.length_replicate, List.length_take, List.length_drop]; omega) | (simp; done))) [2] (by kernel_rfl) ((Lend.nil _).tells 2 (vw A (nums .u8 bs)) A (nums .u8 bs) (by kernel_rfl) (tells_vw _ _)) ?_)
      rintro _ _ ⟨s231, w232, m233, n234, rfl, rfl, hp35, hp36, hp37, hp38⟩
      refine RunR.done (by kernel_rfl) ?_
      refine kseq_n ?_
      refine RunC.seq ?_
      refine RunC.region ?_
      refine RunR.sil hU [] 1 1 [0, 1, 4, 6, 36] [(0, .slice A bs.length c), (1, .slice A3 ys.length c3), (4, .bool false), (6, .pointer (some ⟨b6, 0, none⟩)), (36, .pointer (some ⟨b5, 0, none⟩))] ((True) ∧ True) rfl (by kernel_rfl) ⟨trivial, trivial⟩ ?_
      refine RunR.step (dst := some 37) (op := .call { callee := .value (.func 26), args := #[.tmp 36], argTypes := #[41] }) (by kernel_rfl) (Step.call 26 [.pointer (some ⟨b5, 0, none⟩)] (by kernel_rfl) (by kernel_rfl) [blk b5 68 (nums .u32 s223 ++ (nums .u32 ks ++ (nums .u8 w224 ++ (([.int .i64 m225] : List Value) ++ ([.int .u64 n226] : List Value)))))] [] [blk b6 68 (nums .u32 s231 ++ (nums .u32 ks ++ (nums .u8 w232 ++ (([.int .i64 m233] : List Value) ++ ([.int .u64 n234] : List Value))))), vw none (nums .u8 ([] : List Int)), vw A (nums .u8 bs), vw A3 (nums .u8 ys)] (h_Sum_spec b5 s223 w224 m225 n226 ((([] : List Int) ++ bs) ++ ([] : List Int)) (by first | assumption | omega | (simp only [List.length_append, List.length_cons, List.length_nil, List.length_set, List.length_replicate, List.length_take, List.length_drop]; omega) | (simp only [fits] at *; omega) | (simp only [List.length_append, List.length_cons, List.length_nil, List.length_set, List.length_replicate, List.length_take, List.length_drop] at *; omega) | (simp; done) | decide) (by first | assumption | omega | (simp only [List.length_append, List.length_cons, List.length_nil, List.length_set, List.length_replicate, List.length_take, List.length_drop]; omega) | (simp only [fits] at *; omega) | (simp only [List.length_append, List.length_cons, List.length_nil, List.length_set, List.length_replicate, List.length_take, List.length_drop] at *; omega) | (simp; done) | decide)) [1] (by kernel_rfl) (Lend.nil _) ?_)
      rintro _ _ ⟨A239, c240, zs41, rfl, rfl, hp42, hp43, hp44, hp45, hp46⟩
      refine RunR.sil hU [] 1 3 [0, 1, 4, 6, 37, 38] [(0, .slice A bs.length c), (1, .slice A3 ys.length c3), (4, .bool false), (6, .pointer (some ⟨b6, 0, none⟩)), (37, .slice A239 zs41.length c240), (38, .slice A bs.length c)] ((True) ∧ True) rfl (by kernel_rfl) ⟨trivial, trivial⟩ ?_
      refine RunR.step (dst := some 39) (op := .call { callee := .value (.func 22), args := #[.tmp 38], argTypes := #[22] }) (by kernel_rfl) (Step.call 22 [.slice A bs.length c] (by kernel_rfl) (by kernel_rfl) [] [vw A (nums .u8 bs)] [row 5 1 (.slice A239 zs41.length c240) zs41.length (nums .u8 zs41), blk b5 68 (nums .u32 s223 ++ (nums .u32 ks ++ (nums .u8 w224 ++ (([.int .i64 m225] : List Value) ++ ([.int .u64 n226] : List Value))))), blk b6 68 (nums .u32 s231 ++ (nums .u32 ks ++ (nums .u8 w232 ++ (([.int .i64 m233] : List Value) ++ ([.int .u64 n234] : List Value))))), vw none (nums .u8 ([] : List Int)), vw A (nums .u8 bs), vw A3 (nums .u8 ys)] (h_Of_spec A c bs bs.length hb (by first | assumption | omega | (simp only [List.length_append, List.length_cons, List.length_nil, List.length_set, List.length_replicate, List.length_take, List.length_drop]; omega) | (simp only [fits] at *; omega) | (simp only [List.length_append, List.length_cons, List.length_nil, List.length_set, List.length_replicate, List.length_take, List.length_drop] at *; omega) | (simp; done) | decide) (by first | assumption | omega | (simp only [List.length_append, List.length_cons, List.length_nil, List.length_set, List.length_replicate, List.length_take, List.length_drop]; omega) | (simp only [fits] at *; omega) | (simp only [List.length_append, List.length_cons, List.length_nil, List.length_set, List.length_replicate, List.length_take, List.length_drop] at *; omega) | (simp; done) | decide) (by first | rfl | assumption | omega | (simp only [List.length_append, List.length_cons, List.length_nil, List.length_set, List.length_replicate, List.length_take, List.length_drop]; omega) | (simp; done))) [] (by kernel_rfl) ((Lend.nil _).tells 4 (vw A (nums .u8 bs)) A (nums .u8 bs) (by kernel_rfl) (tells_vw _ _)) ?_)
      rintro _ _ ⟨A247, c248, zs49, rfl, rfl, hp50, hp51, hp52, hp53, hp54⟩
      refine RunR.step (dst := some 40) (op := .call { callee := .value (.func 17), args := #[.tmp 37, .tmp 39], argTypes := #[22, 22] }) (by kernel_rfl) (Step.call 17 [.slice A239 zs41.length c240, .slice A247 zs49.length c248] (by kernel_rfl) (by kernel_rfl) [] [vw A239 (nums .u8 zs41), vw A247 (nums .u8 zs49)] [row 5 1 (.slice A247 zs49.length c248) zs49.length (nums .u8 zs49), row 5 1 (.slice A239 zs41.length c240) zs41.length (nums .u8 zs41), blk b5 68 (nums .u32 s223 ++ (nums .u32 ks ++ (nums .u8 w224 ++ (([.int .i64 m225] : List Value) ++ ([.int .u64 n226] : List Value))))), blk b6 68 (nums .u32 s231 ++ (nums .u32 ks ++ (nums .u8 w232 ++ (([.int .i64 m233] : List Value) ++ ([.int .u64 n234] : List Value))))), vw none (nums .u8 ([] : List Int)), vw A (nums .u8 bs), vw A3 (nums .u8 ys)] (r_Equal_spec A239 c240 zs41 A247 c248 zs49 zs41.length zs49.length hp44 (by first | assumption | omega | (simp only [List.length_append, List.length_cons, List.length_nil, List.length_set, List.length_replicate, List.length_take, List.length_drop]; omega) | (simp only [fits] at *; omega) | (simp only [List.length_append, List.length_cons, List.length_nil, List.length_set, List.length_replicate, List.length_take, List.length_drop] at *; omega) | (simp; done) | decide) hp52 (by first | assumption | omega | (simp only [List.length_append, List.length_cons, List.length_nil, List.length_set, List.length_replicate, List.length_take, List.length_drop]; omega) | (simp only [fits] at *; omega) | (simp only [List.length_append, List.length_cons, List.length_nil, List.length_set, List.length_replicate, List.length_take, List.length_drop] at *; omega) | (simp; done) | decide) (by first | rfl | assumption | omega | (simp only [List.length_append, List.length_cons, List.length_nil, List.length_set, List.length_replicate, List.length_take, List.length_drop]; omega) | (simp; done)) (by first | rfl | assumption | omega | (simp only [List.length_append, List.length_cons, List.length_nil, List.length_set, List.length_replicate, List.length_take, List.length_drop]; omega) | (simp; done))) [] (by kernel_rfl) (((Lend.nil _).tells 0 (row 5 1 (.slice A247 zs49.length c248) zs49.length (nums .u8 zs49)) A247 (nums .u8 zs49) (by kernel_rfl) (tells_row _ _ _ _ _ _)).tells 1 (row 5 1 (.slice A239 zs41.length c240) zs41.length (nums .u8 zs41)) A239 (nums .u8 zs41) (by kernel_rfl) (tells_row _ _ _ _ _ _)) ?_)
      rintro _ _ ⟨rfl, rfl⟩
      refine RunR.sil hU [] 1 6 [0, 1, 4, 6, 41] [(0, .slice A bs.length c), (1, .slice A3 ys.length c3), (4, .bool false), (6, .pointer (some ⟨b6, 0, none⟩)), (41, .bool (decide (zs41 = zs49)))] ((True) ∧ True) rfl (by kernel_rfl) ⟨trivial, trivial⟩ ?_
      refine RunR.env [0, 1, 4, 6, 41] [(0, .slice A bs.length c), (1, .slice A3 ys.length c3), (4, .bool false), (6, .pointer (some ⟨b6, 0, none⟩)), (41, .bool (decide (zs41 = zs49)))] (by kernel_rfl) ?_
      have hk55 : (zs41 = zs49) := by simp only [hp42, hp50, List.nil_append, List.append_nil]
      refine RunR.enveq [(0, .slice A bs.length c), (1, .slice A3 ys.length c3), (4, .bool false), (6, .pointer (some ⟨b6, 0, none⟩)), (41, .bool true)] (by rw [decide_eq_true hk55]; try rfl) ?_
      refine RunR.sil hU [] 1 7 [0, 1, 4, 41, 42] [(0, .slice A bs.length c), (1, .slice A3 ys.length c3), (4, .bool false), (41, .bool true), (42, .pointer (some ⟨b6, 0, none⟩))] ((True) ∧ True) rfl (by kernel_rfl) ⟨trivial, trivial⟩ ?_
      refine RunR.step (dst := some 43) (op := .call { callee := .value (.func 26), args := #[.tmp 42], argTypes := #[41] }) (by kernel_rfl) (Step.call 26 [.pointer (some ⟨b6, 0, none⟩)] (by kernel_rfl) (by kernel_rfl) [blk b6 68 (nums .u32 s231 ++ (nums .u32 ks ++ (nums .u8 w232 ++ (([.int .i64 m233] : List Value) ++ ([.int .u64 n234] : List Value)))))] [] [row 5 1 (.slice A247 zs49.length c248) zs49.length (nums .u8 zs49), row 5 1 (.slice A239 zs41.length c240) zs41.length (nums .u8 zs41), blk b5 68 (nums .u32 s223 ++ (nums .u32 ks ++ (nums .u8 w224 ++ (([.int .i64 m225] : List Value) ++ ([.int .u64 n226] : List Value))))), vw none (nums .u8 ([] : List Int)), vw A (nums .u8 bs), vw A3 (nums .u8 ys)] (h_Sum_spec b6 s231 w232 m233 n234 ((([] : List Int) ++ ys) ++ bs) (by first | assumption | omega | (simp only [List.length_append, List.length_cons, List.length_nil, List.length_set, List.length_replicate, List.length_take, List.length_drop]; omega) | (simp only [fits] at *; omega) | (simp only [List.length_append, List.length_cons, List.length_nil, List.length_set, List.length_replicate, List.length_take, List.length_drop] at *; omega) | (simp; done) | decide) (by first | assumption | omega | (simp only [List.length_append, List.length_cons, List.length_nil, List.length_set, List.length_replicate, List.length_take, List.length_drop]; omega) | (simp only [fits] at *; omega) | (simp only [List.length_append, List.length_cons, List.length_nil, List.length_set, List.length_replicate, List.length_take, List.length_drop] at *; omega) | (simp; done) | decide)) [3] (by kernel_rfl) (Lend.nil _) ?_)
      rintro _ _ ⟨A256, c257, zs58, rfl, rfl, hp59, hp60, hp61, hp62, hp63⟩
      refine RunR.step (dst := some 44) (op := .buildSlice 22 0 #[]) (by kernel_rfl) (Step.lit_nums hU 5 1 .u8 (.int .u8 0) ([] : List Int) rfl rfl (by kernel_rfl) rfl rfl (by kernel_rfl) (fun b64 => ?_))
      have hl65 : (([] : List Int)).length = 0 := rfl
      refine RunR.sil hU [] 1 10 [0, 4, 41, 43, 44, 45] [(0, .slice A bs.length c), (4, .bool false), (41, .bool true), (43, .slice A256 zs58.length c257), (44, .slice (some ⟨b64, 0, none⟩) 0 0), (45, .slice A3 ys.length c3)] ((True) ∧ True) rfl (by kernel_rfl) ⟨trivial, trivial⟩ ?_
      have hl70 : (([] : List Int)).length = 0 := rfl
      refine RunR.step (dst := some 46) (op := .call { callee := .builtin .append, args := #[.tmp 44, .tmp 45], argTypes := #[22, 22] }) (by kernel_rfl) (Step.append_nums hU 5 1 (.int .u8 0) .u8 0 8 (some ⟨b64, 0, none⟩) 0 0 ([] : List Int) A3 ys.length c3 (vw A3 (nums .u8 ys)) ys rfl rfl rfl (by kernel_rfl) (by kernel_rfl) (by kernel_rfl) (by kernel_rfl) (tells_vw _ _) (by first | rfl | omega | (simp; omega)) (by first | rfl | omega | (simp; omega)) (by omega) (by omega) (by kernel_rfl) (fun A66 c67 hc68 hA69 => ?_))
      simp only [List.nil_append] at hc68 hA69
      refine RunR.sil hU [] 1 12 [4, 41, 43, 46, 47] [(4, .bool false), (41, .bool true), (43, .slice A256 zs58.length c257), (46, .slice A66 ys.length c67), (47, .slice A bs.length c)] ((True) ∧ True) rfl (by kernel_rfl) ⟨trivial, trivial⟩ ?_
      refine RunR.step (dst := some 48) (op := .call { callee := .builtin .append, args := #[.tmp 46, .tmp 47], argTypes := #[22, 22] }) (by kernel_rfl) (Step.append_nums hU 5 1 (.int .u8 0) .u8 0 7 A66 ys.length c67 ys A bs.length c (vw A (nums .u8 bs)) bs rfl rfl rfl (by kernel_rfl) (by kernel_rfl) (by kernel_rfl) (by kernel_rfl) (tells_vw _ _) (by first | rfl | omega | (simp; omega)) (by first | rfl | omega | (simp; omega)) (by omega) (by omega) (by kernel_rfl) (fun A71 c72 hc73 hA74 => ?_))
      have hl75 : (ys ++ bs).length = ys.length + bs.length := List.length_append
      refine RunR.step (dst := some 49) (op := .call { callee := .value (.func 22), args := #[.tmp 48], argTypes := #[22] }) (by kernel_rfl) (Step.call 22 [.slice A71 ((ys ++ bs).length) c72] (by kernel_rfl) (by kernel_rfl) [] [vw A71 (nums .u8 (ys ++ bs))] [row 5 1 (.slice A71 ((ys ++ bs).length) c72) ((ys ++ bs).length) (nums .u8 (ys ++ bs)), row 5 1 (.slice A256 zs58.length c257) zs58.length (nums .u8 zs58), blk b6 68 (nums .u32 s231 ++ (nums .u32 ks ++ (nums .u8 w232 ++ (([.int .i64 m233] : List Value) ++ ([.int .u64 n234] : List Value))))), row 5 1 (.slice A247 zs49.length c248) zs49.length (nums .u8 zs49), row 5 1 (.slice A239 zs41.length c240) zs41.length (nums .u8 zs41), blk b5 68 (nums .u32 s223 ++ (nums .u32 ks ++ (nums .u8 w224 ++ (([.int .i64 m225] : List Value) ++ ([.int .u64 n226] : List Value))))), vw none (nums .u8 ([] : List Int)), vw A (nums .u8 bs), vw A3 (nums .u8 ys)] (h_Of_spec A71 c72 (ys ++ bs) ((ys ++ bs).length) (by (repeat first | assumption | (simp only [fits]; omega) | with_reducible first | exact fits_wrap _ _ | exact fits_bits2 _ _ _ _ | exact In.nil _ | exact In.sb _ | exact In.replicate _ _ | apply In.append | apply In.cons | apply In.set | apply In.take | apply In.drop | apply In.rev)) (by first | assumption | omega | (simp only [List.length_append, List.length_cons, List.length_nil, List.length_set, List.length_replicate, List.length_take, List.length_drop]; omega) | (simp only [fits] at *; omega) | (simp only [List.length_append, List.length_cons, List.length_nil, List.length_set, List.length_replicate, List.length_take, List.length_drop] at *; omega) | (simp; done) | decide) (by first | assumption | omega | (simp only [List.length_append, List.length_cons, List.length_nil, List.length_set, List.length_replicate, List.length_take, List.length_drop]; omega) | (simp only [fits] at *; omega) | (simp only [List.length_append, List.length_cons, List.length_nil, List.length_set, List.length_replicate, List.length_take, List.length_drop] at *; omega) | (simp; done) | decide) (by first | rfl | assumption | omega | (simp only [List.length_append, List.length_cons, List.length_nil, List.length_set, List.length_replicate, List.length_take, List.length_drop]; omega) | (simp; done))) [] (by kernel_rfl) ((Lend.nil _).tells 0 (row 5 1 (.slice A71 ((ys ++ bs).length) c72) ((ys ++ bs).length) (nums .u8 (ys ++ bs))) A71 (nums .u8 (ys ++ bs)) (by kernel_rfl) (tells_row _ _ _ _ _ _)) ?_)
      rintro _ _ ⟨A276, c277, zs78, rfl, rfl, hp79, hp80, hp81, hp82, hp83⟩
      refine RunR.step (dst := some 50) (op := .call { callee := .value (.func 17), args := #[.tmp 43, .tmp 49], argTypes := #[22, 22] }) (by kernel_rfl) (Step.call 17 [.slice A256 zs58.length c257, .slice A276 zs78.length c277] (by kernel_rfl) (by kernel_rfl) [] [vw A256 (nums .u8 zs58), vw A276 (nums .u8 zs78)] [row 5 1 (.slice A276 zs78.length c277) zs78.length (nums .u8 zs78), row 5 1 (.slice A71 ((ys ++ bs).length) c72) ((ys ++ bs).length) (nums .u8 (ys ++ bs)), row 5 1 (.slice A256 zs58.length c257) zs58.length (nums .u8 zs58), blk b6 68 (nums .u32 s231 ++ (nums .u32 ks ++ (nums .u8 w232 ++ (([.int .i64 m233] : List Value) ++ ([.int .u64 n234] : List Value))))), row 5 1 (.slice A247 zs49.length c248) zs49.length (nums .u8 zs49), row 5 1 (.slice A239 zs41.length c240) zs41.length (nums .u8 zs41), blk b5 68 (nums .u32 s223 ++ (nums .u32 ks ++ (nums .u8 w224 ++ (([.int .i64 m225] : List Value) ++ ([.int .u64 n226] : List Value))))), vw none (nums .u8 ([] : List Int)), vw A (nums .u8 bs), vw A3 (nums .u8 ys)] (r_Equal_spec A256 c257 zs58 A276 c277 zs78 zs58.length zs78.length hp61 (by first | assumption | omega | (simp only [List.length_append, List.length_cons, List.length_nil, List.length_set, List.length_replicate, List.length_take, List.length_drop]; omega) | (simp only [fits] at *; omega) | (simp only [List.length_append, List.length_cons, List.length_nil, List.length_set, List.length_replicate, List.length_take, List.length_drop] at *; omega) | (simp; done) | decide) hp81 (by first | assumption | omega | (simp only [List.length_append, List.length_cons, List.length_nil, List.length_set, List.length_replicate, List.length_take, List.length_drop]; omega) | (simp only [fits] at *; omega) | (simp only [List.length_append, List.length_cons, List.length_nil, List.length_set, List.length_replicate, List.length_take, List.length_drop] at *; omega) | (simp; done) | decide) (by first | rfl | assumption | omega | (simp only [List.length_append, List.length_cons, List.length_nil, List.length_set, List.length_replicate, List.length_take, List.length_drop]; omega) | (simp; done)) (by first | rfl | assumption | omega | (simp only [List.length_append, List.length_cons, List.length_nil, List.length_set, List.length_replicate, List.length_take, List.length_drop]; omega) | (simp; done))) [] (by kernel_rfl) (((Lend.nil _).tells 0 (row 5 1 (.slice A276 zs78.length c277) zs78.length (nums .u8 zs78)) A276 (nums .u8 zs78) (by kernel_rfl) (tells_row _ _ _ _ _ _)).tells 2 (row 5 1 (.slice A256 zs58.length c257) zs58.length (nums .u8 zs58)) A256 (nums .u8 zs58) (by kernel_rfl) (tells_row _ _ _ _ _ _)) ?_)
      rintro _ _ ⟨rfl, rfl⟩
      refine RunR.sil hU [] 2 17 [4] [(4, .bool (decide (zs58 = zs78)))] ((True) ∧ (True) ∧ True) rfl (by kernel_rfl) ⟨trivial, trivial, trivial⟩ ?_
      refine RunR.env [4] [(4, .bool (decide (zs58 = zs78)))] (by kernel_rfl) ?_
      have hk84 : (zs58 = zs78) := by simp only [hp42, hp50, hp59, hp79, List.nil_append, List.append_nil]
      refine RunR.enveq [(4, .bool true)] (by rw [decide_eq_true hk84]; try rfl) ?_
      refine RunR.done (by kernel_rfl) ?_
      refine kseq_n ?_
      refine RunC.ret ?_
      refine kret_r [.bool true] [] [] ⟨rfl, trivial⟩ (by kernel_rfl) rfl ⟨rfl, rfl⟩
end Go.Proofs.Ytoaoabnhkiijpaa.LShaApart
