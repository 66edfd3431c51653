/- What these functions compute: a contract for each, walked through its code. -/
import Derived.Test.YtaaplakahkgclaaSLzk
import Derived.Test.YtaaplakahkgclaaBPure
import Derived.Test.YtaaplakahkgclaaProg
import Derived.Test.YtaaplakahkgclaaX1
import Derived.Test.YtaaplakahkgclaaX2
import Derived.Test.YtaaplakahkgclaaX3
import Derived.Test.YtaaplakahkgclaaX4
import Derived.Test.YtaaplakahkgclaaX5
import Derived.Test.YtaaplakahkgclaaX6
import Derived.Test.YtaaplakahkgclaaX7
import Derived.Test.YtaaplakahkgclaaX8
import Derived.Test.YtaaplakahkgclaaX9
import Derived.Test.YtaaplakahkgclaaY1
import Derived.Test.YtaaplakahkgclaaY2
import Derived.Test.YtaaplakahkgclaaY3
namespace Go.Proofs.Ytaaplakahkgclaa.Y4
open Go Go.Proofs.Ytaaplakahkgclaa.SL Go.Proofs.Ytaaplakahkgclaa.SL.W Go.Proofs.Ytaaplakahkgclaa.SL.D Go.Proofs.Ytaaplakahkgclaa.X1 Go.Proofs.Ytaaplakahkgclaa.X2 Go.Proofs.Ytaaplakahkgclaa.X3 Go.Proofs.Ytaaplakahkgclaa.X4 Go.Proofs.Ytaaplakahkgclaa.X5 Go.Proofs.Ytaaplakahkgclaa.X6 Go.Proofs.Ytaaplakahkgclaa.X7 Go.Proofs.Ytaaplakahkgclaa.X8 Go.Proofs.Ytaaplakahkgclaa.X9 Go.Proofs.Ytaaplakahkgclaa.Y1 Go.Proofs.Ytaaplakahkgclaa.Y2 Go.Proofs.Ytaaplakahkgclaa.Y3
set_option linter.unusedVariables false
set_option linter.unusedSimpArgs false
set_option maxRecDepth 100000
set_option maxHeartbeats 40000000
def U : Tab where
  und := [(3, .int .i64), (4, .bool), (5, .int .u8), (22, .slice 3), (23, .slice 5), (24, .slice 4), (25, .struct #[{ name := "Blocks", type := 22, offset := 0, embedded := false, tag := "", pkgPath := "", byteOffset := 0 }, { name := "Bytes", type := 23, offset := 1, embedded := false, tag := "", pkgPath := "", byteOffset := 24 }, { name := "Fall", type := 3, offset := 2, embedded := false, tag := "", pkgPath := "", byteOffset := 48 }, { name := "Keep", type := 24, offset := 3, embedded := false, tag := "", pkgPath := "", byteOffset := 56 }, { name := "Again", type := 3, offset := 4, embedded := false, tag := "", pkgPath := "", byteOffset := 80 }, { name := "Keep2", type := 24, offset := 5, embedded := false, tag := "", pkgPath := "", byteOffset := 88 }]), (26, .struct #[{ name := "Blocks", type := 22, offset := 0, embedded := false, tag := "", pkgPath := "", byteOffset := 0 }, { name := "Bytes", type := 23, offset := 1, embedded := false, tag := "", pkgPath := "", byteOffset := 24 }, { name := "Fall", type := 3, offset := 2, embedded := false, tag := "", pkgPath := "", byteOffset := 48 }, { name := "Keep", type := 24, offset := 3, embedded := false, tag := "", pkgPath := "", byteOffset := 56 }, { name := "Again", type := 3, offset := 4, embedded := false, tag := "", pkgPath := "", byteOffset := 80 }, { name := "Keep2", type := 24, offset := 5, embedded := false, tag := "", pkgPath := "", byteOffset := 88 }]), (28, .slice 51), (39, .slice 23), (42, .slice 26), (50, .struct #[{ name := "Block", type := 3, offset := 0, embedded := false, tag := "", pkgPath := "", byteOffset := 0 }, { name := "Data", type := 23, offset := 1, embedded := false, tag := "", pkgPath := "", byteOffset := 8 }]), (51, .struct #[{ name := "Block", type := 3, offset := 0, embedded := false, tag := "", pkgPath := "", byteOffset := 0 }, { name := "Data", type := 23, offset := 1, embedded := false, tag := "", pkgPath := "", byteOffset := 8 }])]
  fld := [((25, 0), (0, 22)), ((25, 1), (1, 23)), ((25, 2), (2, 3)), ((25, 3), (3, 24)), ((25, 4), (4, 3)), ((25, 5), (5, 24)), ((26, 0), (0, 22)), ((26, 1), (1, 23)), ((26, 2), (2, 3)), ((26, 3), (3, 24)), ((26, 4), (4, 3)), ((26, 5), (5, 24)), ((50, 0), (0, 3)), ((50, 1), (1, 23)), ((51, 0), (0, 3)), ((51, 1), (1, 23))]
  sz := [(3, 1), (4, 1), (5, 1), (22, 1), (23, 1), (24, 1), (25, 6), (26, 6), (28, 1), (39, 1), (42, 1), (50, 2), (51, 2)]
  ti := [(3, (1, 8, .int .i64 0)), (4, (1, 1, .bool false)), (5, (1, 1, .int .u8 0)), (22, (1, 24, .slice none 0 0)), (23, (1, 24, .slice none 0 0)), (24, (1, 24, .slice none 0 0)), (25, (6, 112, .agg #[.slice none 0 0, .slice none 0 0, .int .i64 0, .slice none 0 0, .int .i64 0, .slice none 0 0])), (26, (6, 112, .agg #[.slice none 0 0, .slice none 0 0, .int .i64 0, .slice none 0 0, .int .i64 0, .slice none 0 0])), (28, (1, 24, .slice none 0 0)), (39, (1, 24, .slice none 0 0)), (42, (1, 24, .slice none 0 0)), (50, (2, 32, .agg #[.int .i64 0, .slice none 0 0])), (51, (2, 32, .agg #[.int .i64 0, .slice none 0 0]))]
  bld := [(25, [(0, 1), (1, 1), (2, 1), (3, 1), (4, 1), (5, 1)]), (26, [(0, 1), (1, 1), (2, 1), (3, 1), (4, 1), (5, 1)]), (50, [(0, 1), (1, 1)]), (51, [(0, 1), (1, 1)])]

theorem hU : U.OK Try.prog where
  und := by
    intro p hp
    simp only [U, List.mem_cons, List.not_mem_nil, or_false] at hp
    rcases hp with rfl | rfl | rfl | rfl | rfl | rfl | rfl | rfl | rfl | rfl | rfl | rfl | rfl
    · exact Try.underlying3
    · exact Try.underlying4
    · exact Try.underlying5
    · exact Try.underlying22
    · exact Try.underlying23
    · exact Try.underlying24
    · exact Try.underlying25
    · exact Try.underlying26
    · exact Try.underlying28
    · exact Try.underlying39
    · exact Try.underlying42
    · exact Try.underlying50
    · exact Try.underlying51
  fld := by
    intro p hp
    simp only [U, List.mem_cons, List.not_mem_nil, or_false] at hp
    rcases hp with rfl | rfl | rfl | rfl | rfl | rfl | rfl | rfl | rfl | rfl | rfl | rfl | rfl | rfl | rfl | rfl
    · exact ⟨_, _, Try.underlying25, rfl, rfl, rfl, Try.prog.types[22]!, by kernel_rfl, by decide +kernel⟩
    · exact ⟨_, _, Try.underlying25, rfl, rfl, rfl, Try.prog.types[23]!, by kernel_rfl, by decide +kernel⟩
    · exact ⟨_, _, Try.underlying25, rfl, rfl, rfl, Try.prog.types[3]!, by kernel_rfl, by decide +kernel⟩
    · exact ⟨_, _, Try.underlying25, rfl, rfl, rfl, Try.prog.types[24]!, by kernel_rfl, by decide +kernel⟩
    · exact ⟨_, _, Try.underlying25, rfl, rfl, rfl, Try.prog.types[3]!, by kernel_rfl, by decide +kernel⟩
    · exact ⟨_, _, Try.underlying25, rfl, rfl, rfl, Try.prog.types[24]!, by kernel_rfl, by decide +kernel⟩
    · exact ⟨_, _, Try.underlying26, rfl, rfl, rfl, Try.prog.types[22]!, by kernel_rfl, by decide +kernel⟩
    · exact ⟨_, _, Try.underlying26, rfl, rfl, rfl, Try.prog.types[23]!, by kernel_rfl, by decide +kernel⟩
    · exact ⟨_, _, Try.underlying26, rfl, rfl, rfl, Try.prog.types[3]!, by kernel_rfl, by decide +kernel⟩
    · exact ⟨_, _, Try.underlying26, rfl, rfl, rfl, Try.prog.types[24]!, by kernel_rfl, by decide +kernel⟩
    · exact ⟨_, _, Try.underlying26, rfl, rfl, rfl, Try.prog.types[3]!, by kernel_rfl, by decide +kernel⟩
    · exact ⟨_, _, Try.underlying26, rfl, rfl, rfl, Try.prog.types[24]!, by kernel_rfl, by decide +kernel⟩
    · exact ⟨_, _, Try.underlying50, rfl, rfl, rfl, Try.prog.types[3]!, by kernel_rfl, by decide +kernel⟩
    · exact ⟨_, _, Try.underlying50, rfl, rfl, rfl, Try.prog.types[23]!, by kernel_rfl, by decide +kernel⟩
    · exact ⟨_, _, Try.underlying51, rfl, rfl, rfl, Try.prog.types[3]!, by kernel_rfl, by decide +kernel⟩
    · exact ⟨_, _, Try.underlying51, rfl, rfl, rfl, Try.prog.types[23]!, by kernel_rfl, by decide +kernel⟩
  sz := by
    intro p hp
    simp only [U, List.mem_cons, List.not_mem_nil, or_false] at hp
    rcases hp with rfl | rfl | rfl | rfl | rfl | rfl | rfl | rfl | rfl | rfl | rfl | rfl | rfl
    · exact ⟨Try.prog.types[3]!, by kernel_rfl, by kernel_rfl⟩
    · exact ⟨Try.prog.types[4]!, by kernel_rfl, by kernel_rfl⟩
    · exact ⟨Try.prog.types[5]!, by kernel_rfl, by kernel_rfl⟩
    · exact ⟨Try.prog.types[22]!, by kernel_rfl, by kernel_rfl⟩
    · exact ⟨Try.prog.types[23]!, by kernel_rfl, by kernel_rfl⟩
    · exact ⟨Try.prog.types[24]!, by kernel_rfl, by kernel_rfl⟩
    · exact ⟨Try.prog.types[25]!, by kernel_rfl, by kernel_rfl⟩
    · exact ⟨Try.prog.types[26]!, by kernel_rfl, by kernel_rfl⟩
    · exact ⟨Try.prog.types[28]!, by kernel_rfl, by kernel_rfl⟩
    · exact ⟨Try.prog.types[39]!, by kernel_rfl, by kernel_rfl⟩
    · exact ⟨Try.prog.types[42]!, by kernel_rfl, by kernel_rfl⟩
    · exact ⟨Try.prog.types[50]!, by kernel_rfl, by kernel_rfl⟩
    · exact ⟨Try.prog.types[51]!, by kernel_rfl, by kernel_rfl⟩
  ti := by
    intro p hp
    simp only [U, List.mem_cons, List.not_mem_nil, or_false] at hp
    rcases hp with rfl | rfl | rfl | rfl | rfl | rfl | rfl | rfl | rfl | rfl | rfl | rfl | rfl
    · exact ⟨Try.prog.types[3]!, by kernel_rfl, by kernel_rfl, by kernel_rfl, by kernel_rfl⟩
    · exact ⟨Try.prog.types[4]!, by kernel_rfl, by kernel_rfl, by kernel_rfl, by kernel_rfl⟩
    · exact ⟨Try.prog.types[5]!, by kernel_rfl, by kernel_rfl, by kernel_rfl, by kernel_rfl⟩
    · exact ⟨Try.prog.types[22]!, by kernel_rfl, by kernel_rfl, by kernel_rfl, by kernel_rfl⟩
    · exact ⟨Try.prog.types[23]!, by kernel_rfl, by kernel_rfl, by kernel_rfl, by kernel_rfl⟩
    · exact ⟨Try.prog.types[24]!, by kernel_rfl, by kernel_rfl, by kernel_rfl, by kernel_rfl⟩
    · exact ⟨Try.prog.types[25]!, by kernel_rfl, by kernel_rfl, by kernel_rfl, by kernel_rfl⟩
    · exact ⟨Try.prog.types[26]!, by kernel_rfl, by kernel_rfl, by kernel_rfl, by kernel_rfl⟩
    · exact ⟨Try.prog.types[28]!, by kernel_rfl, by kernel_rfl, by kernel_rfl, by kernel_rfl⟩
    · exact ⟨Try.prog.types[39]!, by kernel_rfl, by kernel_rfl, by kernel_rfl, by kernel_rfl⟩
    · exact ⟨Try.prog.types[42]!, by kernel_rfl, by kernel_rfl, by kernel_rfl, by kernel_rfl⟩
    · exact ⟨Try.prog.types[50]!, by kernel_rfl, by kernel_rfl, by kernel_rfl, by kernel_rfl⟩
    · exact ⟨Try.prog.types[51]!, by kernel_rfl, by kernel_rfl, by kernel_rfl, by kernel_rfl⟩
  bld := by
    intro p hp
    simp only [U, List.mem_cons, List.not_mem_nil, or_false] at hp
    rcases hp with rfl | rfl | rfl | rfl
    · exact ⟨_, Try.underlying25, by kernel_rfl⟩
    · exact ⟨_, Try.underlying26, by kernel_rfl⟩
    · exact ⟨_, Try.underlying50, by kernel_rfl⟩
    · exact ⟨_, Try.underlying51, by kernel_rfl⟩
  mixed := by kernel_rfl

theorem wl_small_spec (As : Option Addr) (cs : Nat) (l : List Tr) (l_l : Nat) (hTx : TxOK l) (hlc : l.length ≤ cs) (hlb : l.length ≤ 140737488351232) (hl_l : l.length = l_l) :
    CallsS Try.prog 19 [.slice As l_l cs] [vw As (txV l), vws (txB l), vws (txY l), vws (txK l), vws (txQ l)] (fun r D => ∃ (ok : Bool), r = .bool ok ∧ D = [] ∧ (ok = true → SmallT l 12)) := by
  subst hl_l
  refine CallsS.enter hU Try.f19 _ [.tmp 2] 39 Try.func19 rfl (by decide) rfl rfl (by kernel_rfl) fun w0 W => ?_
  refine RunC.know (p := 0 < l.length * 6 → Option.isSome As = true) (fun _ _ w hs => vw_some hs 0 rfl (by exact txV_len _)) (fun hA1 => ?_)
  refine RunC.sr ?_
  refine RunR.sl hU [] 1 1 [0, 2] [(0, .slice As l.length cs), (2, .bool false)] 1 ?_
  refine RunR.nn ?_
  refine RunC.seq ?_
  refine RunC.sr ?_
  refine RunR.sl hU [] 1 1 [0, 2, 3] [(0, .slice As l.length cs), (2, .bool false), (3, .int .i64 0)] 1 ?_
  refine RunR.nn ?_
  refine RunC.block ?_
  refine RunC.env [0, 3] [(0, .slice As l.length cs), (3, .int .i64 0)] (by kernel_rfl) ?_
  refine RunC.only [0, 0, 0, 0, 0] [vw As (txV l), vws (txB l), vws (txY l), vws (txK l), vws (txQ l)] (by kernel_rfl) ?_
  refine RunC.loop (σ := Nat) (fun n_ t_ D_ => ∃ (i : Int), (0 ≤ i) ∧ (i ≤ 12) ∧ (i ≤ l.length) ∧ (SmallT l i.toNat) ∧ n_ = ((12 - i).toNat : Nat) ∧ t_ = [(0, .slice As l.length cs), (3, .int .i64 i)] ∧ D_ = [vw As (txV l), vws (txB l), vws (txY l), vws (txK l), vws (txQ l)]) id _ ⟨0, (by omega), (by omega), (by omega), (by exact SmallT.zero l), rfl, rfl, rfl⟩ ?_
  rintro n_ _ _ ⟨i, hi, hi6, hil, hS, rfl, rfl, rfl⟩
  refine RunC.seq ?_
  refine RunC.sr ?_
  refine RunR.sl hU [] 5 5 [0, 3, 8] [(0, .slice As l.length cs), (3, .int .i64 i), (8, .bool (decide (i < ((l.length : Nat) : Int))))] 5 ?_
  refine RunR.ev [0, 3, 8] [(0, .slice As l.length cs), (3, .int .i64 i), (8, .bool (decide (i < ((l.length : Nat) : Int))))] ?_
  by_cases h2 : i < ((l.length : Nat) : Int)
  · skip
    refine RunR.enveq [(0, .slice As l.length cs), (3, .int .i64 i), (8, .bool true)] (by rw [decide_eq_true h2]; try rfl) ?_
    refine RunR.sl hU [] 3 8 [0, 3, 11] [(0, .slice As l.length cs), (3, .int .i64 i), (11, .bool (decide (i < 12)))] 3 ?_
    refine RunR.nn ?_
    refine RunC.condp (i < 12) (by kernel_rfl) (fun h3 => ?_) (fun h3 => ?_)
    · skip
      refine RunC.ks ?_
      refine RunC.seq ?_
      refine RunC.block ?_
      refine RunC.sr ?_
      refine RunR.sil hU [] 3 3 [0, 3, 16] [(0, .slice As l.length cs), (3, .int .i64 i), (16, .pointer (elemAt As i 6))] ((True) ∧ (True) ∧ ((0 ≤ i ∧ i < ((l.length : Nat) : Int)) ∧ Option.isSome As = true) ∧ True) rfl (by kernel_rfl) ⟨trivial, trivial, ⟨by omega, hA1 (by omega)⟩, trivial⟩ ?_
      refine RunR.know (p := ∃ b o, As = some ⟨b, o, none⟩) (fun _ _ w hs => vw_at hs 0 rfl (by rw [txV_len]; omega)) (fun ⟨b4, o5, hA6⟩ => ?_)
      obtain ⟨bA7, bc8, bl9, yA10, yc11, yl12, ff13, kA14, kc15, kb16, gg17, qA18, qc19, qb20, hg21, hx22, hx23, hx24, hx25, hf26, hx27, hf28, hx29, hx30, hx31, hx32, hx33⟩ := tx_at (by assumption : TxOK l) (i := (i).toNat) (by omega)
      have hf34 := hf26; simp only [fits] at hf34
      have hf35 := hf28; simp only [fits] at hf35
      refine RunR.ev [0, 3, 16] [(0, .slice As l.length cs), (3, .int .i64 i), (16, .pointer (elemAt As i 6))] ?_
      refine RunR.enveq [(0, .slice As l.length cs), (3, .int .i64 i), (16, .pointer (some ⟨b4, o5 + (i).toNat * 6, none⟩))] (by rw [elem_at hA6]) ?_
      refine RunR.sl hU [] 1 4 [0, 3, 17] [(0, .slice As l.length cs), (3, .int .i64 i), (17, .pointer (some ⟨b4, o5 + (i).toNat * 6, none⟩))] 1 ?_
      refine RunR.st (some 18) (.load 22 (.tmp 17)) (Step.load_vwat hU 0 As b4 o5 ((i).toNat * 6) (txV l) (.slice bA7 bl9.length bc8) hA6 (by kernel_rfl) (by kernel_rfl) ((loadv_txj 0 (by decide) (by kernel_rfl) hg21).trans rfl) (by kernel_rfl) (by have := (List.getElem?_eq_some_iff.1 hg21).1; rw [txV_len]; omega) ?_)
      refine RunR.sl hU [] 3 8 [0, 3, 21] [(0, .slice As l.length cs), (3, .int .i64 i), (21, .bool (decide (((bl9.length : Nat) : Int) > 60)))] 3 ?_
      refine RunR.ev [0, 3, 21] [(0, .slice As l.length cs), (3, .int .i64 i), (21, .bool (decide (((bl9.length : Nat) : Int) > 60)))] ?_
      by_cases h36 : ((bl9.length : Nat) : Int) > 60
      · skip
        refine RunR.enveq [(0, .slice As l.length cs), (3, .int .i64 i), (21, .bool true)] (by rw [decide_eq_true h36]; try rfl) ?_
        refine RunR.sl hU [] 17 25 [0, 3, 38] [(0, .slice As l.length cs), (3, .int .i64 i), (38, .bool true)] 3 ?_
        refine RunR.nn ?_
        refine RunC.cond (b := true) (by kernel_rfl) (fun _ => ?_) (fun h => by cases h)
        refine RunC.sr ?_
        refine RunR.sl hU [] 1 1 [0, 2, 3] [(0, .slice As l.length cs), (2, .bool false), (3, .int .i64 i)] 1 ?_
        refine RunR.nn ?_
        refine RunC.ret ?_
        refine kblock_r ?_
        refine kseq_r ?_
        refine kloop_r ?_
        refine kblock_r ?_
        refine kseq_r ?_
        refine kret_r [.bool false] [] [] ⟨rfl, trivial⟩ (by kernel_rfl) rfl ⟨false, rfl, rfl, (by intro h; cases h)⟩
      · skip
        refine RunR.enveq [(0, .slice As l.length cs), (3, .int .i64 i), (21, .bool false)] (by rw [decide_eq_false h36]; try rfl) ?_
        refine RunR.sil hU [] 3 11 [0, 3, 21, 24] [(0, .slice As l.length cs), (3, .int .i64 i), (21, .bool false), (24, .pointer (elemAt As i 6))] ((True) ∧ (True) ∧ ((0 ≤ i ∧ i < ((l.length : Nat) : Int)) ∧ Option.isSome As = true) ∧ True) rfl (by kernel_rfl) ⟨trivial, trivial, ⟨by omega, hA1 (by omega)⟩, trivial⟩ ?_
        refine RunR.ev [0, 3, 21, 24] [(0, .slice As l.length cs), (3, .int .i64 i), (21, .bool false), (24, .pointer (elemAt As i 6))] ?_
        refine RunR.enveq [(0, .slice As l.length cs), (3, .int .i64 i), (21, .bool false), (24, .pointer (some ⟨b4, o5 + (i).toNat * 6, none⟩))] (by rw [elem_at hA6]) ?_
        refine RunR.sl hU [] 1 12 [0, 3, 21, 25] [(0, .slice As l.length cs), (3, .int .i64 i), (21, .bool false), (25, .pointer (some ⟨b4, o5 + (i).toNat * 6 + 3, none⟩))] 1 ?_
        refine RunR.st (some 26) (.load 24 (.tmp 25)) (Step.load_vwat hU 0 As b4 o5 ((i).toNat * 6 + 3) (txV l) (.slice kA14 kb16.length kc15) hA6 (by kernel_rfl) (by kernel_rfl) ((loadv_txj 3 (by decide) (by kernel_rfl) hg21).trans rfl) (by kernel_rfl) (by have := (List.getElem?_eq_some_iff.1 hg21).1; rw [txV_len]; omega) ?_)
        refine RunR.sl hU [] 4 17 [0, 3, 30] [(0, .slice As l.length cs), (3, .int .i64 i), (30, .bool (decide (((kb16.length : Nat) : Int) > 1000)))] 4 ?_
        refine RunR.ev [0, 3, 30] [(0, .slice As l.length cs), (3, .int .i64 i), (30, .bool (decide (((kb16.length : Nat) : Int) > 1000)))] ?_
        by_cases h37 : ((kb16.length : Nat) : Int) > 1000
        · skip
          refine RunR.enveq [(0, .slice As l.length cs), (3, .int .i64 i), (30, .bool true)] (by rw [decide_eq_true h37]; try rfl) ?_
          refine RunR.sl hU [] 8 25 [0, 3, 38] [(0, .slice As l.length cs), (3, .int .i64 i), (38, .bool true)] 1 ?_
          refine RunR.nn ?_
          refine RunC.cond (b := true) (by kernel_rfl) (fun _ => ?_) (fun h => by cases h)
          refine RunC.sr ?_
          refine RunR.sl hU [] 1 1 [0, 2, 3] [(0, .slice As l.length cs), (2, .bool false), (3, .int .i64 i)] 1 ?_
          refine RunR.nn ?_
          refine RunC.ret ?_
          refine kblock_r ?_
          refine kseq_r ?_
          refine kloop_r ?_
          refine kblock_r ?_
          refine kseq_r ?_
          refine kret_r [.bool false] [] [] ⟨rfl, trivial⟩ (by kernel_rfl) rfl ⟨false, rfl, rfl, (by intro h; cases h)⟩
        · skip
          refine RunR.enveq [(0, .slice As l.length cs), (3, .int .i64 i), (30, .bool false)] (by rw [decide_eq_false h37]; try rfl) ?_
          refine RunR.sil hU [] 3 20 [0, 3, 30, 33] [(0, .slice As l.length cs), (3, .int .i64 i), (30, .bool false), (33, .pointer (elemAt As i 6))] ((True) ∧ (True) ∧ ((0 ≤ i ∧ i < ((l.length : Nat) : Int)) ∧ Option.isSome As = true) ∧ True) rfl (by kernel_rfl) ⟨trivial, trivial, ⟨by omega, hA1 (by omega)⟩, trivial⟩ ?_
          refine RunR.ev [0, 3, 30, 33] [(0, .slice As l.length cs), (3, .int .i64 i), (30, .bool false), (33, .pointer (elemAt As i 6))] ?_
          refine RunR.enveq [(0, .slice As l.length cs), (3, .int .i64 i), (30, .bool false), (33, .pointer (some ⟨b4, o5 + (i).toNat * 6, none⟩))] (by rw [elem_at hA6]) ?_
          refine RunR.sl hU [] 1 21 [0, 3, 30, 34] [(0, .slice As l.length cs), (3, .int .i64 i), (30, .bool false), (34, .pointer (some ⟨b4, o5 + (i).toNat * 6 + 5, none⟩))] 1 ?_
          refine RunR.st (some 35) (.load 24 (.tmp 34)) (Step.load_vwat hU 0 As b4 o5 ((i).toNat * 6 + 5) (txV l) (.slice qA18 qb20.length qc19) hA6 (by kernel_rfl) (by kernel_rfl) ((loadv_txj 5 (by decide) (by kernel_rfl) hg21).trans rfl) (by kernel_rfl) (by have := (List.getElem?_eq_some_iff.1 hg21).1; rw [txV_len]; omega) ?_)
          refine RunR.sl hU [] 3 25 [0, 3, 38] [(0, .slice As l.length cs), (3, .int .i64 i), (38, .bool (decide (((qb20.length : Nat) : Int) > 1000)))] 3 ?_
          refine RunR.nn ?_
          refine RunC.condp (((qb20.length : Nat) : Int) > 1000) (by kernel_rfl) (fun h38 => ?_) (fun h38 => ?_)
          · skip
            refine RunC.sr ?_
            refine RunR.sl hU [] 1 1 [0, 2, 3] [(0, .slice As l.length cs), (2, .bool false), (3, .int .i64 i)] 1 ?_
            refine RunR.nn ?_
            refine RunC.ret ?_
            refine kblock_r ?_
            refine kseq_r ?_
            refine kloop_r ?_
            refine kblock_r ?_
            refine kseq_r ?_
            refine kret_r [.bool false] [] [] ⟨rfl, trivial⟩ (by kernel_rfl) rfl ⟨false, rfl, rfl, (by intro h; cases h)⟩
          · skip
            refine RunC.skip ?_
            refine kblock_n ?_
            refine kseq_n ?_
            refine RunC.region ?_
            refine RunR.sil hU [1] 3 3 [0, 3] [(0, .slice As l.length cs), (3, .int .i64 (i + 1))] ((True) ∧ (-9223372036854775808 ≤ (i + 1) ∧ (i + 1) < 9223372036854775808) ∧ (True) ∧ True) rfl (by kernel_rfl) ⟨trivial, (by omega), trivial, trivial⟩ ?_
            refine RunR.dn ?_
            refine kloop_n _ [0, 3] [0, 0, 0, 0, 0] [(0, .slice As l.length cs), (3, .int .i64 (i + 1))] [vw As (txV l), vws (txB l), vws (txY l), vws (txK l), vws (txQ l)] (by kernel_rfl) (by kernel_rfl) ?_ ⟨(i + 1), (by omega), (by assumption), (by assumption), (by rw [show (i + 1).toNat = i.toNat + 1 by omega]; exact hS.succ (by assumption) (by simp only; omega) (by simp only; omega) (by simp only; omega)), rfl, (by rfl), (by rfl)⟩
            show ((12 - (i + 1)).toNat : Nat) < ((12 - i).toNat : Nat)
            omega
    · skip
      refine RunC.exit ?_
      refine kseq_e ?_
      refine kloop_e ?_
      refine kblock_e ?_
      refine kseq_n ?_
      refine RunC.sr ?_
      refine RunR.sl hU [] 1 1 [2] [(2, .bool true)] 1 ?_
      refine RunR.nn ?_
      refine RunC.ret ?_
      refine kret_r [.bool true] [] [] ⟨rfl, trivial⟩ (by kernel_rfl) rfl ⟨true, rfl, rfl, (by intro _; exact hS.over (by omega))⟩
  · skip
    refine RunR.enveq [(0, .slice As l.length cs), (3, .int .i64 i), (8, .bool false)] (by rw [decide_eq_false h2]; try rfl) ?_
    refine RunR.sl hU [] 3 8 [0, 3, 11] [(0, .slice As l.length cs), (3, .int .i64 i), (11, .bool false)] 1 ?_
    refine RunR.nn ?_
    refine RunC.cond (b := false) (by kernel_rfl) (fun h => by cases h) (fun _ => ?_)
    refine RunC.exit ?_
    refine kseq_e ?_
    refine kloop_e ?_
    refine kblock_e ?_
    refine kseq_n ?_
    refine RunC.sr ?_
    refine RunR.sl hU [] 1 1 [2] [(2, .bool true)] 1 ?_
    refine RunR.nn ?_
    refine RunC.ret ?_
    refine kret_r [.bool true] [] [] ⟨rfl, trivial⟩ (by kernel_rfl) rfl ⟨true, rfl, rfl, (by intro _; exact hS.over (by omega))⟩

theorem wr_Done2_spec (Ab : Option Addr) (nb : Nat) (cb : Nat) (xb : List Ro) (La : Option Addr) (lm : Nat) (lc : Nat) (ls : List Ch) (hKxb : RowsOK .u8 xb) (hlxb : xb.length = nb) (hcxb : nb ≤ cb) (hbxb : nb ≤ 1000000) (hAxb : 0 < nb → Option.isSome Ab = true) (hll : ls.length = lm) (hlb : lm ≤ 1000000) (hlok : ChOK .u8 ls) (hmok : MOK ((nb : Nat) : Int) ls) :
    CallsS Try.prog 23 [.slice Ab nb cb, .slice La lm lc] [rws .u8 xb, vw Ab (rowsV xb), vw La (chV ls), vws (chL ls)] (fun r D => ∃ (A9 : Option Addr) (n9 : Nat) (c9 : Nat) (zs : List Ro), r = .slice A9 n9 c9 ∧ D = [row 23 1 (.slice A9 n9 c9) n9 (rowsV zs), rws .u8 (xb ++ zs)] ∧ (rb zs = doneP (rb xb) (dat ls)) ∧ (RowsOK .u8 zs) ∧ (zs.length = n9) ∧ (n9 ≤ c9) ∧ (n9 ≤ 1000000) ∧ (0 < n9 → Option.isSome A9 = true) ∧ (n9 = nb)) := by
  refine CallsS.enter hU Try.f23 _ [.tmp 4] 31 Try.func23 rfl (by decide) rfl rfl (by kernel_rfl) fun w0 W => ?_
  refine RunC.know (p := 0 < ls.length * 2 → Option.isSome La = true) (fun _ _ w hs => vw_some hs 2 rfl (by exact chV_len _)) (fun hA1 => ?_)
  refine RunC.know (p := 0 < xb.length → Option.isSome Ab = true) (fun _ _ w hs => vw_some hs 1 rfl (by simp [rowsV_len])) (fun hA2 => ?_)
  refine RunC.sr ?_
  refine RunR.sl hU [] 1 1 [0, 1, 4] [(0, .slice Ab nb cb), (1, .slice La lm lc), (4, .slice none 0 0)] 1 ?_
  refine RunR.nx ?_
  refine RunR.st (some 7) (.buildSlice 39 0 #[]) (Step.lit_rows hU 23 24 (.slice none 0 0) [] rfl rfl (by kernel_rfl) rfl rfl (by kernel_rfl) (fun b3 => ?_))
  refine RunR.sl hU [] 1 2 [1, 4, 7, 8] [(1, .slice La lm lc), (4, .slice none 0 0), (7, .slice (some ⟨b3, 0, none⟩) 0 0), (8, .slice Ab nb cb)] 1 ?_
  refine RunR.st (some 9) (.call { callee := .builtin .append, args := #[.tmp 7, .tmp 8], argTypes := #[39, 39] }) (Step.append_rows hU 23 24 (.slice none 0 0) 0 2 (some ⟨b3, 0, none⟩) 0 0 [] Ab nb cb (vw Ab (rowsV xb)) xb (by kernel_rfl) (by kernel_rfl) (by kernel_rfl) (by kernel_rfl) (by kernel_rfl) (by kernel_rfl) (by kernel_rfl) (tells_vw _ _) (by omega) (by rfl) (by simp only [List.length_cons, List.length_nil]; omega) (by simp only [List.length_cons, List.length_nil]; omega) (by kernel_rfl) (fun Aq4 cq5 hc6 hA7 => ?_))
  have hc8 : (xb : List Ro).length ≤ cq5 := hc6
  have hA9 : 0 < (xb : List Ro).length → Option.isSome Aq4 = true := hA7
  refine RunR.sl hU [] 1 4 [1, 4, 5] [(1, .slice La lm lc), (4, .slice none 0 0), (5, .slice Aq4 ((xb : List Ro).length) cq5)] 1 ?_
  refine RunR.nn ?_
  refine RunC.seq ?_
  refine RunC.sr ?_
  refine RunR.sl hU [] 1 1 [1, 4, 5, 6] [(1, .slice La lm lc), (4, .slice none 0 0), (5, .slice Aq4 ((xb : List Ro).length) cq5), (6, .int .i64 0)] 1 ?_
  refine RunR.nn ?_
  refine RunC.block ?_
  refine RunC.turn ([rws .u8 (xb ++ xb), row 23 1 (.slice Aq4 ((xb : List Ro).length) cq5) ((xb : List Ro).length) (rowsV xb), vw Ab (rowsV xb), vw La (chV ls), vws (chL ls)]) (fun _ _ w hs => hs.rwdDup 1 rfl) ?_
  refine RunC.env [1, 4, 5, 6] [(1, .slice La lm lc), (4, .slice none 0 0), (5, .slice Aq4 ((xb : List Ro).length) cq5), (6, .int .i64 0)] (by kernel_rfl) ?_
  refine RunC.only [1, 0, 0, 0, 0] [row 23 1 (.slice Aq4 ((xb : List Ro).length) cq5) ((xb : List Ro).length) (rowsV xb), rws .u8 (xb ++ xb), vw Ab (rowsV xb), vw La (chV ls), vws (chL ls)] (by kernel_rfl) ?_
  refine RunC.loop (σ := Nat) (fun n_ t_ D_ => ∃ (i : Int) (os : List Ro), (0 ≤ i) ∧ (i ≤ (lm : Int)) ∧ (rb os = doneP (rb xb) ((dat ls).take i.toNat)) ∧ (RowsOK .u8 os) ∧ (os.length = nb) ∧ n_ = ((lm - i).toNat : Nat) ∧ t_ = [(1, .slice La lm lc), (4, .slice none 0 0), (5, .slice Aq4 ((xb : List Ro).length) cq5), (6, .int .i64 i)] ∧ D_ = [row 23 1 (.slice Aq4 ((xb : List Ro).length) cq5) ((xb : List Ro).length) (rowsV os), rws .u8 (xb ++ os), vw Ab (rowsV xb), vw La (chV ls), vws (chL ls)]) id _ ⟨0, xb, (by omega), (by omega), (by rfl), (by assumption), (by assumption), rfl, rfl, rfl⟩ ?_
  rintro n_ _ _ ⟨i, os, hi, him, hos, hKos, hlos, rfl, rfl, rfl⟩
  refine RunC.seq ?_
  refine RunC.sr ?_
  refine RunR.sl hU [] 4 4 [1, 4, 5, 6, 13] [(1, .slice La lm lc), (4, .slice none 0 0), (5, .slice Aq4 ((xb : List Ro).length) cq5), (6, .int .i64 i), (13, .bool (decide (i < ((lm : Nat) : Int))))] 4 ?_
  refine RunR.nn ?_
  refine RunC.condp (i < ((lm : Nat) : Int)) (by kernel_rfl) (fun h10 => ?_) (fun h10 => ?_)
  · skip
    refine RunC.ks ?_
    refine RunC.seq ?_
    refine RunC.block ?_
    refine RunC.regionU hU 15 [vw La (chV ls)] [3] [13, 14] (bm 15 0) (by kernel_rfl) (by kernel_rfl) (by kernel_rfl) ?_
    refine RunU.sl hU 0 (bm 15 1) 16 (.slice Aq4 ((xb : List Ro).length) cq5) ?_
    refine RunU.sl hU 1 (bm 15 3) 17 (.slice La lm lc) ?_
    refine RunU.sl hU 2 (bm 15 7) 18 (.int .i64 i) ?_
    refine RunU.sil hU false 3 (bm 15 15) 19 (.pointer (elemAt La i 2)) ((0 ≤ i ∧ i < ((lm : Nat) : Int)) ∧ Option.isSome La = true) (by kernel_rfl) ⟨by omega, hA1 (by omega)⟩ (by kernel_rfl) (by kernel_rfl) (fun _ _ _ h => h) ?_
    refine RunU.know (p := ∃ b o, La = some ⟨b, o, none⟩) (fun _ _ w hs => tells_at hs 3 rfl (tells_vw _ _) (by rw [chV_len]; omega)) (fun ⟨b11, o12, hA13⟩ => ?_)
    obtain ⟨k14, Ae15, ce16, xe17, hg18, hf19, hr20, hc21, hl22⟩ := ch_at (by assumption : ChOK .u8 ls) (i := (i).toNat) (by omega)
    have hf23 := hf19; simp only [fits] at hf23
    have hw24 := mok_at hmok hg18
    refine RunU.ev [1, 4, 5, 6, 13, 16, 17, 18, 19] [(1, .slice La lm lc), (4, .slice none 0 0), (5, .slice Aq4 ((xb : List Ro).length) cq5), (6, .int .i64 i), (13, .bool (decide (i < ((lm : Nat) : Int)))), (16, .slice Aq4 ((xb : List Ro).length) cq5), (17, .slice La lm lc), (18, .int .i64 i), (19, .pointer (elemAt La i 2))] ?_
    refine RunU.enveq [(1, .slice La lm lc), (4, .slice none 0 0), (5, .slice Aq4 ((xb : List Ro).length) cq5), (6, .int .i64 i), (13, .bool (decide (i < ((lm : Nat) : Int)))), (16, .slice Aq4 ((xb : List Ro).length) cq5), (17, .slice La lm lc), (18, .int .i64 i), (19, .pointer (some ⟨b11, o12 + (i).toNat * 2, none⟩))] (by rw [elem_at hA13]) ?_
    refine RunU.sl hU 4 (bm 15 31) 20 (.pointer (some ⟨b11, o12 + (i).toNat * 2, none⟩)) ?_
    refine RunU.rd 5 (bm 15 63) 21 (.load 3 (.tmp 20)) (.int .i64 k14) [3] (Reads.load_of hU 0 (vw La (chV ls)) La b11 o12 ((i).toNat * 2) (chV ls) (.int .i64 k14) hA13 (by kernel_rfl) (by kernel_rfl) (tells_vw _ _) (loadv_ch0 (by kernel_rfl) hg18) (by rw [chV_len]; omega)) ?_
    refine RunU.sl hU 7 (bm 15 191) 23 (.slice La lm lc) ?_
    refine RunU.sl hU 8 (bm 15 447) 24 (.int .i64 i) ?_
    refine RunU.sil hU false 9 (bm 15 959) 25 (.pointer (elemAt La i 2)) ((0 ≤ i ∧ i < ((lm : Nat) : Int)) ∧ Option.isSome La = true) (by kernel_rfl) ⟨by omega, hA1 (by omega)⟩ (by kernel_rfl) (by kernel_rfl) (fun _ _ _ h => h) ?_
    refine RunU.ev [1, 4, 5, 6, 13, 16, 17, 18, 19, 20, 21, 23, 24, 25] [(1, .slice La lm lc), (4, .slice none 0 0), (5, .slice Aq4 ((xb : List Ro).length) cq5), (6, .int .i64 i), (13, .bool (decide (i < ((lm : Nat) : Int)))), (16, .slice Aq4 ((xb : List Ro).length) cq5), (17, .slice La lm lc), (18, .int .i64 i), (19, .pointer (some ⟨b11, o12 + (i).toNat * 2, none⟩)), (20, .pointer (some ⟨b11, o12 + (i).toNat * 2, none⟩)), (21, .int .i64 k14), (23, .slice La lm lc), (24, .int .i64 i), (25, .pointer (elemAt La i 2))] ?_
    refine RunU.enveq [(1, .slice La lm lc), (4, .slice none 0 0), (5, .slice Aq4 ((xb : List Ro).length) cq5), (6, .int .i64 i), (13, .bool (decide (i < ((lm : Nat) : Int)))), (16, .slice Aq4 ((xb : List Ro).length) cq5), (17, .slice La lm lc), (18, .int .i64 i), (19, .pointer (some ⟨b11, o12 + (i).toNat * 2, none⟩)), (20, .pointer (some ⟨b11, o12 + (i).toNat * 2, none⟩)), (21, .int .i64 k14), (23, .slice La lm lc), (24, .int .i64 i), (25, .pointer (some ⟨b11, o12 + (i).toNat * 2, none⟩))] (by rw [elem_at hA13]) ?_
    refine RunU.sl hU 10 (bm 15 1983) 26 (.pointer (some ⟨b11, o12 + (i).toNat * 2 + 1, none⟩)) ?_
    refine RunU.rd 11 (bm 15 4031) 27 (.load 23 (.tmp 26)) (.slice Ae15 xe17.length ce16) [3] (Reads.load_of hU 0 (vw La (chV ls)) La b11 o12 ((i).toNat * 2 + 1) (chV ls) (.slice Ae15 xe17.length ce16) hA13 (by kernel_rfl) (by kernel_rfl) (tells_vw _ _) (loadv_ch1 (by kernel_rfl) hg18) (by rw [chV_len]; omega)) ?_
    refine RunU.on (some 22) (.buildSlice 23 0 #[]) 6 (bm 15 4095) [4] (Step.lit_nums hU 5 1 .u8 (.int .u8 0) ([] : List Int) rfl rfl (by kernel_rfl) rfl rfl (by kernel_rfl) (fun b25 => ?_))
    have hl26 : (([] : List Int)).length = 0 := rfl
    refine orL ?_
    have hl31 : (([] : List Int)).length = 0 := rfl
    refine RunU.on (some 28) (.call { callee := .builtin .append, args := #[.tmp 22, .tmp 27], argTypes := #[23, 23] }) 12 (bm 15 8191) [4] (Step.append_nums hU 5 1 (.int .u8 0) .u8 0 5 (some ⟨b25, 0, none⟩) 0 0 ([] : List Int) Ae15 xe17.length ce16 (vws (chL ls)) xe17 rfl rfl rfl (by kernel_rfl) (by kernel_rfl) (by kernel_rfl) (by kernel_rfl) (tells_chL hg18) (by rfl) (by rfl) (by omega) (by omega) (by kernel_rfl) (fun Aq27 cq28 hc29 hA30 => ?_))
    simp only [List.nil_append] at hc29 hA30
    refine orL ?_
    refine RunU.sil hU false 13 (bm 15 16383) 29 (.pointer (elemAt Aq4 k14 1)) ((0 ≤ k14 ∧ k14 < (((xb : List Ro).length : Nat) : Int)) ∧ Option.isSome Aq4 = true) (by kernel_rfl) ⟨by omega, hA9 (by omega)⟩ (by kernel_rfl) (by kernel_rfl) (fun _ _ _ h => h) ?_
    refine RunU.on none (.store 23 (.tmp 29) (.tmp 28)) 14 (bm 15 32767) [] (Step.store_ro hU 1 23 ((xb : List Ro).length) cq5 Aq4 os k14 Aq27 cq28 xe17 (by kernel_rfl) (by kernel_rfl) (by kernel_rfl) rfl (by omega) ?_)
    refine orR ?_
    have hl32 : (os.set (k14).toNat (Aq27, cq28, xe17)).length = os.length := List.length_set
    refine RunU.turn ([rws .u8 (xb ++ (os.set (k14).toNat (Aq27, cq28, xe17))), row 23 1 (.slice Aq4 ((xb : List Ro).length) cq5) ((xb : List Ro).length) (rowsV (os.set (k14).toNat (Aq27, cq28, xe17))), vw Ab (rowsV xb), vw La (chV ls), vws (chL ls)]) (fun _ _ w hs => SAT.rwdSetNew2 ((k14).toNat) Aq27 cq28 xe17 rfl (tells_row _ _ _ _ _ _) (hs.pulls2 [1, 1] ([row 5 1 (.slice Aq27 xe17.length cq28) xe17.length (nums .u8 xe17), rws .u8 (xb ++ os), row 23 1 (.slice Aq4 ((xb : List Ro).length) cq5) ((xb : List Ro).length) (rowsV (os.set (k14).toNat (Aq27, cq28, xe17))), vw Ab (rowsV xb), vw La (chV ls), vws (chL ls)]) (by kernel_rfl))) ?_
    refine RunU.ev [1, 4, 5, 6] [(1, .slice La lm lc), (4, .slice none 0 0), (5, .slice Aq4 ((xb : List Ro).length) cq5), (6, .int .i64 i)] ?_
    refine RunU.dn ?_
    refine kblock_n ?_
    refine kseq_n ?_
    refine RunC.region ?_
    refine RunR.sil hU [1] 3 3 [1, 4, 5, 6] [(1, .slice La lm lc), (4, .slice none 0 0), (5, .slice Aq4 ((xb : List Ro).length) cq5), (6, .int .i64 (i + 1))] ((True) ∧ (-9223372036854775808 ≤ (i + 1) ∧ (i + 1) < 9223372036854775808) ∧ (True) ∧ True) rfl (by kernel_rfl) ⟨trivial, (by omega), trivial, trivial⟩ ?_
    refine RunR.dn ?_
    refine kloop_n _ [1, 4, 5, 6] [1, 0, 0, 0, 0] [(1, .slice La lm lc), (4, .slice none 0 0), (5, .slice Aq4 ((xb : List Ro).length) cq5), (6, .int .i64 (i + 1))] [row 23 1 (.slice Aq4 ((xb : List Ro).length) cq5) ((xb : List Ro).length) (rowsV (os.set (k14).toNat (Aq27, cq28, xe17))), rws .u8 (xb ++ (os.set (k14).toNat (Aq27, cq28, xe17))), vw Ab (rowsV xb), vw La (chV ls), vws (chL ls)] (by kernel_rfl) (by kernel_rfl) ?_ ⟨(i + 1), (os.set (k14).toNat (Aq27, cq28, xe17)), (by omega), (by assumption), (by rw [show (i + 1).toNat = i.toNat + 1 by omega]; exact done_step hos (dat_get (by assumption))), (by exact hKos.set (by assumption) (by omega) (by omega)), (by rw [List.length_set]; assumption), rfl, (by rfl), (by rfl)⟩
    show ((lm - (i + 1)).toNat : Nat) < ((lm - i).toNat : Nat)
    omega
  · skip
    refine RunC.exit ?_
    refine kseq_e ?_
    refine kloop_e ?_
    refine kblock_e ?_
    refine kseq_n ?_
    refine RunC.sr ?_
    refine RunR.sl hU [] 2 2 [4] [(4, .slice Aq4 ((xb : List Ro).length) cq5)] 2 ?_
    refine RunR.nn ?_
    refine RunC.ret ?_
    refine kret_r [.slice Aq4 ((xb : List Ro).length) cq5] [0, 0] [row 23 1 (.slice Aq4 ((xb : List Ro).length) cq5) ((xb : List Ro).length) (rowsV os), rws .u8 (xb ++ os)] ⟨rfl, trivial⟩ (by kernel_rfl) rfl ⟨Aq4, ((xb : List Ro).length), cq5, os, rfl, rfl, (by rw [hos, List.take_of_length_le (by rw [dat_len]; omega)]), (by assumption), (by omega), (by omega), (by omega), (by assumption), (by omega)⟩

theorem wr_Done_spec (Ab : Option Addr) (nb : Nat) (cb : Nat) (xb : List Ro) (La : Option Addr) (lm : Nat) (lc : Nat) (ls : List Ch) (hKxb : RowsOK .u8 xb) (hlxb : xb.length = nb) (hcxb : nb ≤ cb) (hbxb : nb ≤ 1000000) (hAxb : 0 < nb → Option.isSome Ab = true) (hll : ls.length = lm) (hlb : lm ≤ 1000000) (hlok : ChOK .u8 ls) (hmok : MOK ((nb : Nat) : Int) ls) :
    CallsS Try.prog 23 [.slice Ab nb cb, .slice La lm lc] [rws .u8 xb, vw Ab (rowsV xb), vw La (chV ls), vws (chL ls)] (fun r D => ∃ (A9 : Option Addr) (n9 : Nat) (c9 : Nat) (zs : List Ro), r = .slice A9 n9 c9 ∧ D = [row 23 1 (.slice A9 n9 c9) n9 (rowsV zs), rws .u8 zs] ∧ (rb zs = doneP (rb xb) (dat ls)) ∧ (RowsOK .u8 zs) ∧ (zs.length = n9) ∧ (n9 ≤ c9) ∧ (n9 ≤ 1000000) ∧ (0 < n9 → Option.isSome A9 = true) ∧ (n9 = nb)) := by
  refine CallsS.enter hU Try.f23 _ [.tmp 4] 31 Try.func23 rfl (by decide) rfl rfl (by kernel_rfl) fun w0 W => ?_
  refine RunC.know (p := 0 < ls.length * 2 → Option.isSome La = true) (fun _ _ w hs => vw_some hs 2 rfl (by exact chV_len _)) (fun hA1 => ?_)
  refine RunC.know (p := 0 < xb.length → Option.isSome Ab = true) (fun _ _ w hs => vw_some hs 1 rfl (by simp [rowsV_len])) (fun hA2 => ?_)
  refine RunC.sr ?_
  refine RunR.sl hU [] 1 1 [0, 1, 4] [(0, .slice Ab nb cb), (1, .slice La lm lc), (4, .slice none 0 0)] 1 ?_
  refine RunR.nx ?_
  refine RunR.st (some 7) (.buildSlice 39 0 #[]) (Step.lit_rows hU 23 24 (.slice none 0 0) [] rfl rfl (by kernel_rfl) rfl rfl (by kernel_rfl) (fun b3 => ?_))
  refine RunR.sl hU [] 1 2 [1, 4, 7, 8] [(1, .slice La lm lc), (4, .slice none 0 0), (7, .slice (some ⟨b3, 0, none⟩) 0 0), (8, .slice Ab nb cb)] 1 ?_
  refine RunR.st (some 9) (.call { callee := .builtin .append, args := #[.tmp 7, .tmp 8], argTypes := #[39, 39] }) (Step.append_rows hU 23 24 (.slice none 0 0) 0 2 (some ⟨b3, 0, none⟩) 0 0 [] Ab nb cb (vw Ab (rowsV xb)) xb (by kernel_rfl) (by kernel_rfl) (by kernel_rfl) (by kernel_rfl) (by kernel_rfl) (by kernel_rfl) (by kernel_rfl) (tells_vw _ _) (by omega) (by rfl) (by simp only [List.length_cons, List.length_nil]; omega) (by simp only [List.length_cons, List.length_nil]; omega) (by kernel_rfl) (fun Aq4 cq5 hc6 hA7 => ?_))
  have hc8 : (xb : List Ro).length ≤ cq5 := hc6
  have hA9 : 0 < (xb : List Ro).length → Option.isSome Aq4 = true := hA7
  refine RunR.sl hU [] 1 4 [1, 4, 5] [(1, .slice La lm lc), (4, .slice none 0 0), (5, .slice Aq4 ((xb : List Ro).length) cq5)] 1 ?_
  refine RunR.nn ?_
  refine RunC.seq ?_
  refine RunC.sr ?_
  refine RunR.sl hU [] 1 1 [1, 4, 5, 6] [(1, .slice La lm lc), (4, .slice none 0 0), (5, .slice Aq4 ((xb : List Ro).length) cq5), (6, .int .i64 0)] 1 ?_
  refine RunR.nn ?_
  refine RunC.block ?_
  refine RunC.env [1, 4, 5, 6] [(1, .slice La lm lc), (4, .slice none 0 0), (5, .slice Aq4 ((xb : List Ro).length) cq5), (6, .int .i64 0)] (by kernel_rfl) ?_
  refine RunC.only [0, 0, 0, 0, 0] [row 23 1 (.slice Aq4 ((xb : List Ro).length) cq5) ((xb : List Ro).length) (rowsV xb), rws .u8 xb, vw Ab (rowsV xb), vw La (chV ls), vws (chL ls)] (by kernel_rfl) ?_
  refine RunC.loop (σ := Nat) (fun n_ t_ D_ => ∃ (i : Int) (os : List Ro), (0 ≤ i) ∧ (i ≤ (lm : Int)) ∧ (rb os = doneP (rb xb) ((dat ls).take i.toNat)) ∧ (RowsOK .u8 os) ∧ (os.length = nb) ∧ n_ = ((lm - i).toNat : Nat) ∧ t_ = [(1, .slice La lm lc), (4, .slice none 0 0), (5, .slice Aq4 ((xb : List Ro).length) cq5), (6, .int .i64 i)] ∧ D_ = [row 23 1 (.slice Aq4 ((xb : List Ro).length) cq5) ((xb : List Ro).length) (rowsV os), rws .u8 os, vw Ab (rowsV xb), vw La (chV ls), vws (chL ls)]) id _ ⟨0, xb, (by omega), (by omega), (by rfl), (by assumption), (by assumption), rfl, rfl, rfl⟩ ?_
  rintro n_ _ _ ⟨i, os, hi, him, hos, hKos, hlos, rfl, rfl, rfl⟩
  refine RunC.seq ?_
  refine RunC.sr ?_
  refine RunR.sl hU [] 4 4 [1, 4, 5, 6, 13] [(1, .slice La lm lc), (4, .slice none 0 0), (5, .slice Aq4 ((xb : List Ro).length) cq5), (6, .int .i64 i), (13, .bool (decide (i < ((lm : Nat) : Int))))] 4 ?_
  refine RunR.nn ?_
  refine RunC.condp (i < ((lm : Nat) : Int)) (by kernel_rfl) (fun h10 => ?_) (fun h10 => ?_)
  · skip
    refine RunC.ks ?_
    refine RunC.seq ?_
    refine RunC.block ?_
    refine RunC.regionU hU 15 [vw La (chV ls)] [3] [13, 14] (bm 15 0) (by kernel_rfl) (by kernel_rfl) (by kernel_rfl) ?_
    refine RunU.sl hU 0 (bm 15 1) 16 (.slice Aq4 ((xb : List Ro).length) cq5) ?_
    refine RunU.sl hU 1 (bm 15 3) 17 (.slice La lm lc) ?_
    refine RunU.sl hU 2 (bm 15 7) 18 (.int .i64 i) ?_
    refine RunU.sil hU false 3 (bm 15 15) 19 (.pointer (elemAt La i 2)) ((0 ≤ i ∧ i < ((lm : Nat) : Int)) ∧ Option.isSome La = true) (by kernel_rfl) ⟨by omega, hA1 (by omega)⟩ (by kernel_rfl) (by kernel_rfl) (fun _ _ _ h => h) ?_
    refine RunU.know (p := ∃ b o, La = some ⟨b, o, none⟩) (fun _ _ w hs => tells_at hs 3 rfl (tells_vw _ _) (by rw [chV_len]; omega)) (fun ⟨b11, o12, hA13⟩ => ?_)
    obtain ⟨k14, Ae15, ce16, xe17, hg18, hf19, hr20, hc21, hl22⟩ := ch_at (by assumption : ChOK .u8 ls) (i := (i).toNat) (by omega)
    have hf23 := hf19; simp only [fits] at hf23
    have hw24 := mok_at hmok hg18
    refine RunU.ev [1, 4, 5, 6, 13, 16, 17, 18, 19] [(1, .slice La lm lc), (4, .slice none 0 0), (5, .slice Aq4 ((xb : List Ro).length) cq5), (6, .int .i64 i), (13, .bool (decide (i < ((lm : Nat) : Int)))), (16, .slice Aq4 ((xb : List Ro).length) cq5), (17, .slice La lm lc), (18, .int .i64 i), (19, .pointer (elemAt La i 2))] ?_
    refine RunU.enveq [(1, .slice La lm lc), (4, .slice none 0 0), (5, .slice Aq4 ((xb : List Ro).length) cq5), (6, .int .i64 i), (13, .bool (decide (i < ((lm : Nat) : Int)))), (16, .slice Aq4 ((xb : List Ro).length) cq5), (17, .slice La lm lc), (18, .int .i64 i), (19, .pointer (some ⟨b11, o12 + (i).toNat * 2, none⟩))] (by rw [elem_at hA13]) ?_
    refine RunU.sl hU 4 (bm 15 31) 20 (.pointer (some ⟨b11, o12 + (i).toNat * 2, none⟩)) ?_
    refine RunU.rd 5 (bm 15 63) 21 (.load 3 (.tmp 20)) (.int .i64 k14) [3] (Reads.load_of hU 0 (vw La (chV ls)) La b11 o12 ((i).toNat * 2) (chV ls) (.int .i64 k14) hA13 (by kernel_rfl) (by kernel_rfl) (tells_vw _ _) (loadv_ch0 (by kernel_rfl) hg18) (by rw [chV_len]; omega)) ?_
    refine RunU.sl hU 7 (bm 15 191) 23 (.slice La lm lc) ?_
    refine RunU.sl hU 8 (bm 15 447) 24 (.int .i64 i) ?_
    refine RunU.sil hU false 9 (bm 15 959) 25 (.pointer (elemAt La i 2)) ((0 ≤ i ∧ i < ((lm : Nat) : Int)) ∧ Option.isSome La = true) (by kernel_rfl) ⟨by omega, hA1 (by omega)⟩ (by kernel_rfl) (by kernel_rfl) (fun _ _ _ h => h) ?_
    refine RunU.ev [1, 4, 5, 6, 13, 16, 17, 18, 19, 20, 21, 23, 24, 25] [(1, .slice La lm lc), (4, .slice none 0 0), (5, .slice Aq4 ((xb : List Ro).length) cq5), (6, .int .i64 i), (13, .bool (decide (i < ((lm : Nat) : Int)))), (16, .slice Aq4 ((xb : List Ro).length) cq5), (17, .slice La lm lc), (18, .int .i64 i), (19, .pointer (some ⟨b11, o12 + (i).toNat * 2, none⟩)), (20, .pointer (some ⟨b11, o12 + (i).toNat * 2, none⟩)), (21, .int .i64 k14), (23, .slice La lm lc), (24, .int .i64 i), (25, .pointer (elemAt La i 2))] ?_
    refine RunU.enveq [(1, .slice La lm lc), (4, .slice none 0 0), (5, .slice Aq4 ((xb : List Ro).length) cq5), (6, .int .i64 i), (13, .bool (decide (i < ((lm : Nat) : Int)))), (16, .slice Aq4 ((xb : List Ro).length) cq5), (17, .slice La lm lc), (18, .int .i64 i), (19, .pointer (some ⟨b11, o12 + (i).toNat * 2, none⟩)), (20, .pointer (some ⟨b11, o12 + (i).toNat * 2, none⟩)), (21, .int .i64 k14), (23, .slice La lm lc), (24, .int .i64 i), (25, .pointer (some ⟨b11, o12 + (i).toNat * 2, none⟩))] (by rw [elem_at hA13]) ?_
    refine RunU.sl hU 10 (bm 15 1983) 26 (.pointer (some ⟨b11, o12 + (i).toNat * 2 + 1, none⟩)) ?_
    refine RunU.rd 11 (bm 15 4031) 27 (.load 23 (.tmp 26)) (.slice Ae15 xe17.length ce16) [3] (Reads.load_of hU 0 (vw La (chV ls)) La b11 o12 ((i).toNat * 2 + 1) (chV ls) (.slice Ae15 xe17.length ce16) hA13 (by kernel_rfl) (by kernel_rfl) (tells_vw _ _) (loadv_ch1 (by kernel_rfl) hg18) (by rw [chV_len]; omega)) ?_
    refine RunU.on (some 22) (.buildSlice 23 0 #[]) 6 (bm 15 4095) [4] (Step.lit_nums hU 5 1 .u8 (.int .u8 0) ([] : List Int) rfl rfl (by kernel_rfl) rfl rfl (by kernel_rfl) (fun b25 => ?_))
    have hl26 : (([] : List Int)).length = 0 := rfl
    refine orL ?_
    have hl31 : (([] : List Int)).length = 0 := rfl
    refine RunU.on (some 28) (.call { callee := .builtin .append, args := #[.tmp 22, .tmp 27], argTypes := #[23, 23] }) 12 (bm 15 8191) [4] (Step.append_nums hU 5 1 (.int .u8 0) .u8 0 5 (some ⟨b25, 0, none⟩) 0 0 ([] : List Int) Ae15 xe17.length ce16 (vws (chL ls)) xe17 rfl rfl rfl (by kernel_rfl) (by kernel_rfl) (by kernel_rfl) (by kernel_rfl) (tells_chL hg18) (by rfl) (by rfl) (by omega) (by omega) (by kernel_rfl) (fun Aq27 cq28 hc29 hA30 => ?_))
    simp only [List.nil_append] at hc29 hA30
    refine orL ?_
    refine RunU.sil hU false 13 (bm 15 16383) 29 (.pointer (elemAt Aq4 k14 1)) ((0 ≤ k14 ∧ k14 < (((xb : List Ro).length : Nat) : Int)) ∧ Option.isSome Aq4 = true) (by kernel_rfl) ⟨by omega, hA9 (by omega)⟩ (by kernel_rfl) (by kernel_rfl) (fun _ _ _ h => h) ?_
    refine RunU.on none (.store 23 (.tmp 29) (.tmp 28)) 14 (bm 15 32767) [] (Step.store_ro hU 1 23 ((xb : List Ro).length) cq5 Aq4 os k14 Aq27 cq28 xe17 (by kernel_rfl) (by kernel_rfl) (by kernel_rfl) rfl (by omega) ?_)
    refine orR ?_
    have hl32 : (os.set (k14).toNat (Aq27, cq28, xe17)).length = os.length := List.length_set
    refine RunU.turn ([rws .u8 (os.set (k14).toNat (Aq27, cq28, xe17)), row 23 1 (.slice Aq4 ((xb : List Ro).length) cq5) ((xb : List Ro).length) (rowsV (os.set (k14).toNat (Aq27, cq28, xe17))), vw Ab (rowsV xb), vw La (chV ls), vws (chL ls)]) (fun _ _ w hs => SAT.rwdSetNew ((k14).toNat) Aq27 cq28 xe17 rfl (tells_row _ _ _ _ _ _) (hs.pulls2 [1, 1] ([row 5 1 (.slice Aq27 xe17.length cq28) xe17.length (nums .u8 xe17), rws .u8 os, row 23 1 (.slice Aq4 ((xb : List Ro).length) cq5) ((xb : List Ro).length) (rowsV (os.set (k14).toNat (Aq27, cq28, xe17))), vw Ab (rowsV xb), vw La (chV ls), vws (chL ls)]) (by kernel_rfl))) ?_
    refine RunU.ev [1, 4, 5, 6] [(1, .slice La lm lc), (4, .slice none 0 0), (5, .slice Aq4 ((xb : List Ro).length) cq5), (6, .int .i64 i)] ?_
    refine RunU.dn ?_
    refine kblock_n ?_
    refine kseq_n ?_
    refine RunC.region ?_
    refine RunR.sil hU [1] 3 3 [1, 4, 5, 6] [(1, .slice La lm lc), (4, .slice none 0 0), (5, .slice Aq4 ((xb : List Ro).length) cq5), (6, .int .i64 (i + 1))] ((True) ∧ (-9223372036854775808 ≤ (i + 1) ∧ (i + 1) < 9223372036854775808) ∧ (True) ∧ True) rfl (by kernel_rfl) ⟨trivial, (by omega), trivial, trivial⟩ ?_
    refine RunR.dn ?_
    refine kloop_n _ [1, 4, 5, 6] [1, 0, 0, 0, 0] [(1, .slice La lm lc), (4, .slice none 0 0), (5, .slice Aq4 ((xb : List Ro).length) cq5), (6, .int .i64 (i + 1))] [row 23 1 (.slice Aq4 ((xb : List Ro).length) cq5) ((xb : List Ro).length) (rowsV (os.set (k14).toNat (Aq27, cq28, xe17))), rws .u8 (os.set (k14).toNat (Aq27, cq28, xe17)), vw Ab (rowsV xb), vw La (chV ls), vws (chL ls)] (by kernel_rfl) (by kernel_rfl) ?_ ⟨(i + 1), (os.set (k14).toNat (Aq27, cq28, xe17)), (by omega), (by assumption), (by rw [show (i + 1).toNat = i.toNat + 1 by omega]; exact done_step hos (dat_get (by assumption))), (by exact hKos.set (by assumption) (by omega) (by omega)), (by rw [List.length_set]; assumption), rfl, (by rfl), (by rfl)⟩
    show ((lm - (i + 1)).toNat : Nat) < ((lm - i).toNat : Nat)
    omega
  · skip
    refine RunC.exit ?_
    refine kseq_e ?_
    refine kloop_e ?_
    refine kblock_e ?_
    refine kseq_n ?_
    refine RunC.sr ?_
    refine RunR.sl hU [] 2 2 [4] [(4, .slice Aq4 ((xb : List Ro).length) cq5)] 2 ?_
    refine RunR.nn ?_
    refine RunC.ret ?_
    refine kret_r [.slice Aq4 ((xb : List Ro).length) cq5] [0, 0] [row 23 1 (.slice Aq4 ((xb : List Ro).length) cq5) ((xb : List Ro).length) (rowsV os), rws .u8 os] ⟨rfl, trivial⟩ (by kernel_rfl) rfl ⟨Aq4, ((xb : List Ro).length), cq5, os, rfl, rfl, (by rw [hos, List.take_of_length_le (by rw [dat_len]; omega)]), (by assumption), (by omega), (by omega), (by omega), (by assumption), (by omega)⟩
end Go.Proofs.Ytaaplakahkgclaa.Y4
