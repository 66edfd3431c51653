/- What these functions compute: a contract for each, walked through its code. -/
import Derived.Test.YtcpohiegijpghaaNPure
import Derived.Test.YtcpohiegijpghaaProg
import Derived.Test.YtcpohiegijpghaaX1
import Derived.Test.YtcpohiegijpghaaX2
import Derived.Test.YtcpohiegijpghaaX3
import Derived.Test.YtcpohiegijpghaaX4
import Derived.Test.YtcpohiegijpghaaX5
namespace Go.Proofs.Ytcpohiegijpghaa.X6
open Go Go.Proofs.Ytcpohiegijpghaa.SL Go.Proofs.Ytcpohiegijpghaa.SL.W Go.Proofs.Ytcpohiegijpghaa.SL.D Go.Proofs.Ytcpohiegijpghaa.X1 Go.Proofs.Ytcpohiegijpghaa.X2 Go.Proofs.Ytcpohiegijpghaa.X3 Go.Proofs.Ytcpohiegijpghaa.X4 Go.Proofs.Ytcpohiegijpghaa.X5
set_option linter.unusedVariables false
set_option linter.unusedSimpArgs false
set_option maxRecDepth 100000
set_option maxHeartbeats 40000000
def U : Tab where
  und := [(3, .int .i64), (4, .bool), (5, .int .u8), (22, .slice 5), (52, .slice 4), (65, .slice 68), (67, .struct #[{ name := "Kind", type := 3, offset := 0, embedded := false, tag := "", pkgPath := "", byteOffset := 0 }, { name := "At", type := 3, offset := 1, embedded := false, tag := "", pkgPath := "", byteOffset := 8 }, { name := "Bytes", type := 22, offset := 2, embedded := false, tag := "", pkgPath := "", byteOffset := 16 }, { name := "Keep", type := 52, offset := 3, embedded := false, tag := "", pkgPath := "", byteOffset := 40 }]), (68, .struct #[{ name := "Kind", type := 3, offset := 0, embedded := false, tag := "", pkgPath := "", byteOffset := 0 }, { name := "At", type := 3, offset := 1, embedded := false, tag := "", pkgPath := "", byteOffset := 8 }, { name := "Bytes", type := 22, offset := 2, embedded := false, tag := "", pkgPath := "", byteOffset := 16 }, { name := "Keep", type := 52, offset := 3, embedded := false, tag := "", pkgPath := "", byteOffset := 40 }])]
  fld := [((67, 0), (0, 3)), ((67, 1), (1, 3)), ((67, 2), (2, 22)), ((67, 3), (3, 52)), ((68, 0), (0, 3)), ((68, 1), (1, 3)), ((68, 2), (2, 22)), ((68, 3), (3, 52))]
  sz := [(3, 1), (4, 1), (5, 1), (22, 1), (52, 1), (65, 1), (67, 4), (68, 4)]
  ti := [(3, (1, 8, .int .i64 0)), (4, (1, 1, .bool false)), (5, (1, 1, .int .u8 0)), (22, (1, 24, .slice none 0 0)), (52, (1, 24, .slice none 0 0)), (65, (1, 24, .slice none 0 0)), (67, (4, 64, .agg #[.int .i64 0, .int .i64 0, .slice none 0 0, .slice none 0 0])), (68, (4, 64, .agg #[.int .i64 0, .int .i64 0, .slice none 0 0, .slice none 0 0]))]
  bld := [(67, [(0, 1), (1, 1), (2, 1), (3, 1)]), (68, [(0, 1), (1, 1), (2, 1), (3, 1)])]

theorem hU : U.OK Try.prog where
  und := by
    intro p hp
    simp only [U, List.mem_cons, List.not_mem_nil, or_false] at hp
    rcases hp with rfl | rfl | rfl | rfl | rfl | rfl | rfl | rfl
    · exact Try.underlying3
    · exact Try.underlying4
    · exact Try.underlying5
    · exact Try.underlying22
    · exact Try.underlying52
    · exact Try.underlying65
    · exact Try.underlying67
    · exact Try.underlying68
  fld := by
    intro p hp
    simp only [U, List.mem_cons, List.not_mem_nil, or_false] at hp
    rcases hp with rfl | rfl | rfl | rfl | rfl | rfl | rfl | rfl
    · exact ⟨_, _, Try.underlying67, rfl, rfl, rfl, Try.prog.types[3]!, by kernel_rfl, by decide +kernel⟩
    · exact ⟨_, _, Try.underlying67, rfl, rfl, rfl, Try.prog.types[3]!, by kernel_rfl, by decide +kernel⟩
    · exact ⟨_, _, Try.underlying67, rfl, rfl, rfl, Try.prog.types[22]!, by kernel_rfl, by decide +kernel⟩
    · exact ⟨_, _, Try.underlying67, rfl, rfl, rfl, Try.prog.types[52]!, by kernel_rfl, by decide +kernel⟩
    · exact ⟨_, _, Try.underlying68, rfl, rfl, rfl, Try.prog.types[3]!, by kernel_rfl, by decide +kernel⟩
    · exact ⟨_, _, Try.underlying68, rfl, rfl, rfl, Try.prog.types[3]!, by kernel_rfl, by decide +kernel⟩
    · exact ⟨_, _, Try.underlying68, rfl, rfl, rfl, Try.prog.types[22]!, by kernel_rfl, by decide +kernel⟩
    · exact ⟨_, _, Try.underlying68, rfl, rfl, rfl, Try.prog.types[52]!, by kernel_rfl, by decide +kernel⟩
  sz := by
    intro p hp
    simp only [U, List.mem_cons, List.not_mem_nil, or_false] at hp
    rcases hp with rfl | rfl | rfl | rfl | rfl | rfl | rfl | rfl
    · exact ⟨Try.prog.types[3]!, by kernel_rfl, by kernel_rfl⟩
    · exact ⟨Try.prog.types[4]!, by kernel_rfl, by kernel_rfl⟩
    · exact ⟨Try.prog.types[5]!, by kernel_rfl, by kernel_rfl⟩
    · exact ⟨Try.prog.types[22]!, by kernel_rfl, by kernel_rfl⟩
    · exact ⟨Try.prog.types[52]!, by kernel_rfl, by kernel_rfl⟩
    · exact ⟨Try.prog.types[65]!, by kernel_rfl, by kernel_rfl⟩
    · exact ⟨Try.prog.types[67]!, by kernel_rfl, by kernel_rfl⟩
    · exact ⟨Try.prog.types[68]!, by kernel_rfl, by kernel_rfl⟩
  ti := by
    intro p hp
    simp only [U, List.mem_cons, List.not_mem_nil, or_false] at hp
    rcases hp with rfl | rfl | rfl | rfl | rfl | rfl | rfl | rfl
    · exact ⟨Try.prog.types[3]!, by kernel_rfl, by kernel_rfl, by kernel_rfl, by kernel_rfl⟩
    · exact ⟨Try.prog.types[4]!, by kernel_rfl, by kernel_rfl, by kernel_rfl, by kernel_rfl⟩
    · exact ⟨Try.prog.types[5]!, by kernel_rfl, by kernel_rfl, by kernel_rfl, by kernel_rfl⟩
    · exact ⟨Try.prog.types[22]!, by kernel_rfl, by kernel_rfl, by kernel_rfl, by kernel_rfl⟩
    · exact ⟨Try.prog.types[52]!, by kernel_rfl, by kernel_rfl, by kernel_rfl, by kernel_rfl⟩
    · exact ⟨Try.prog.types[65]!, by kernel_rfl, by kernel_rfl, by kernel_rfl, by kernel_rfl⟩
    · exact ⟨Try.prog.types[67]!, by kernel_rfl, by kernel_rfl, by kernel_rfl, by kernel_rfl⟩
    · exact ⟨Try.prog.types[68]!, by kernel_rfl, by kernel_rfl, by kernel_rfl, by kernel_rfl⟩
  bld := by
    intro p hp
    simp only [U, List.mem_cons, List.not_mem_nil, or_false] at hp
    rcases hp with rfl | rfl
    · exact ⟨_, Try.underlying67, by kernel_rfl⟩
    · exact ⟨_, Try.underlying68, by kernel_rfl⟩
  mixed := by kernel_rfl

theorem d_small_spec (As : Option Addr) (cs : Nat) (l : List Sd) (l_l : Nat) (hDo : DoOK l) (hlc : l.length ≤ cs) (hlb : l.length ≤ 140737488351232) (hl_l : l.length = l_l) :
    CallsS Try.prog 47 [.slice As l_l cs] [vw As (doV l), vws (doL l), vws (doB l)] (fun r D => ∃ (ok : Bool), r = .bool ok ∧ D = [] ∧ (ok = true → Small l 60)) := by
  subst hl_l
  refine CallsS.enter hU Try.f47 _ [.tmp 2] 30 Try.func47 rfl (by decide) rfl rfl (by kernel_rfl) fun w0 W => ?_
  refine RunC.know (p := 0 < l.length * 4 → Option.isSome As = true) (fun _ _ w hs => vw_some hs 0 rfl (by first | (simp [nums_length]; done) | exact dosV_len _ | exact bls_len _ | exact chV_len _ | exact doV_len _)) (fun hA1 => ?_)
  refine RunC.seq ?_
  refine RunC.region ?_
  refine RunR.sil hU [] 1 1 [0, 2] [(0, .slice As l.length cs), (2, .bool false)] ((True) ∧ True) rfl (by kernel_rfl) ⟨trivial, trivial⟩ ?_
  refine RunR.done (by kernel_rfl) ?_
  refine kseq_n ?_
  refine RunC.seq ?_
  refine RunC.seq ?_
  refine RunC.region ?_
  refine RunR.sil hU [] 1 1 [0, 2, 3] [(0, .slice As l.length cs), (2, .bool false), (3, .int .i64 0)] ((True) ∧ True) rfl (by kernel_rfl) ⟨trivial, trivial⟩ ?_
  refine RunR.done (by kernel_rfl) ?_
  refine kseq_n ?_
  refine RunC.block ?_
  refine RunC.env [0, 3] [(0, .slice As l.length cs), (3, .int .i64 0)] (by kernel_rfl) ?_
  refine RunC.only [0, 0, 0] [vw As (doV l), vws (doL l), vws (doB l)] (by kernel_rfl) ?_
  refine RunC.loop (σ := Nat) (fun n_ t_ D_ => ∃ (i : Int), (0 ≤ i) ∧ (i ≤ 60) ∧ (i ≤ l.length) ∧ (Small l i.toNat) ∧ n_ = ((60 - i).toNat : Nat) ∧ t_ = [(0, .slice As l.length cs), (3, .int .i64 i)] ∧ D_ = [vw As (doV l), vws (doL l), vws (doB l)]) id _ ⟨0, (by first | assumption | omega | (simp only [List.length_append, List.length_cons, List.length_nil, List.length_set, List.length_replicate, List.length_take, List.length_drop]; omega) | (simp only [fits] at *; omega) | (simp only [List.length_append, List.length_cons, List.length_nil, List.length_set, List.length_replicate, List.length_take, List.length_drop] at *; omega) | (simp; done) | decide), (by first | assumption | omega | (simp only [List.length_append, List.length_cons, List.length_nil, List.length_set, List.length_replicate, List.length_take, List.length_drop]; omega) | (simp only [fits] at *; omega) | (simp only [List.length_append, List.length_cons, List.length_nil, List.length_set, List.length_replicate, List.length_take, List.length_drop] at *; omega) | (simp; done) | decide), (by first | assumption | omega | (simp only [List.length_append, List.length_cons, List.length_nil, List.length_set, List.length_replicate, List.length_take, List.length_drop]; omega) | (simp only [fits] at *; omega) | (simp only [List.length_append, List.length_cons, List.length_nil, List.length_set, List.length_replicate, List.length_take, List.length_drop] at *; omega) | (simp; done) | decide), (by exact Small.zero l), rfl, rfl, rfl⟩ ?_
  rintro n_ _ _ ⟨i, hi, hi6, hil, hS, rfl, rfl, rfl⟩
  refine RunC.seq ?_
  refine RunC.seq ?_
  refine RunC.region ?_
  refine RunR.sil hU [] 5 5 [0, 3, 8] [(0, .slice As l.length cs), (3, .int .i64 i), (8, .bool (decide (i < ((l.length : Nat) : Int))))] ((True) ∧ (True) ∧ (True) ∧ (True) ∧ (True) ∧ True) rfl (by kernel_rfl) ⟨trivial, trivial, trivial, trivial, trivial, trivial⟩ ?_
  refine RunR.env [0, 3, 8] [(0, .slice As l.length cs), (3, .int .i64 i), (8, .bool (decide (i < ((l.length : Nat) : Int))))] (by kernel_rfl) ?_
  by_cases h2 : i < ((l.length : Nat) : Int)
  · skip
    refine RunR.enveq [(0, .slice As l.length cs), (3, .int .i64 i), (8, .bool true)] (by rw [decide_eq_true h2]; try rfl) ?_
    refine RunR.sil hU [] 3 8 [0, 3, 11] [(0, .slice As l.length cs), (3, .int .i64 i), (11, .bool (decide (i < 60)))] ((True) ∧ (True) ∧ (True) ∧ True) rfl (by kernel_rfl) ⟨trivial, trivial, trivial, trivial⟩ ?_
    refine RunR.done (by kernel_rfl) ?_
    refine kseq_n ?_
    refine RunC.condp (i < 60) (by kernel_rfl) (fun h3 => ?_) (fun h3 => ?_)
    · skip
      refine RunC.skip ?_
      refine kseq_n ?_
      refine RunC.seq ?_
      refine RunC.block ?_
      refine RunC.seq ?_
      refine RunC.region ?_
      refine RunR.sil hU [] 3 3 [0, 3, 16] [(0, .slice As l.length cs), (3, .int .i64 i), (16, .pointer (elemAt As i 4))] ((True) ∧ (True) ∧ ((0 ≤ i ∧ i < ((l.length : Nat) : Int)) ∧ Option.isSome As = true) ∧ True) rfl (by kernel_rfl) ⟨trivial, trivial, ⟨by omega, hA1 (by omega)⟩, trivial⟩ ?_
      refine RunR.know (p := ∃ b o, As = some ⟨b, o, none⟩) (fun _ _ w hs => vw_at hs 0 rfl (by rw [doV_len]; omega)) (fun ⟨b4, o5, hA6⟩ => ?_)
      obtain ⟨kd7, ad8, Ad9, cd10, xd11, Bd12, dd13, bd14, hg15, hk16, ha17, hx18, hc19, hl20, hd21, hm22⟩ := do_at (by assumption : DoOK l) (i := (i).toNat) (by omega)
      have hf23 := hk16; simp only [fits] at hf23
      have hf24 := ha17; simp only [fits] at hf24
      refine RunR.env [0, 3, 16] [(0, .slice As l.length cs), (3, .int .i64 i), (16, .pointer (elemAt As i 4))] (by kernel_rfl) ?_
      refine RunR.enveq [(0, .slice As l.length cs), (3, .int .i64 i), (16, .pointer (some ⟨b4, o5 + (i).toNat * 4, none⟩))] (by rw [elem_at hA6]) ?_
      refine RunR.sil hU [] 1 4 [0, 3, 17] [(0, .slice As l.length cs), (3, .int .i64 i), (17, .pointer (some ⟨b4, o5 + (i).toNat * 4 + 2, none⟩))] ((True) ∧ True) rfl (by kernel_rfl) ⟨trivial, trivial⟩ ?_
      refine RunR.step (dst := some 18) (op := .load 22 (.tmp 17)) (by kernel_rfl) (Step.load_vwat hU 0 As b4 o5 ((i).toNat * 4 + 2) (doV l) (.slice Ad9 xd11.length cd10) hA6 (by kernel_rfl) (by kernel_rfl) (loadv_do0 (by kernel_rfl) hg15).2.2.1 (by kernel_rfl) (by have := (List.getElem?_eq_some_iff.1 hg15).1; rw [doV_len]; omega) ?_)
      refine RunR.sil hU [] 3 8 [0, 3, 21] [(0, .slice As l.length cs), (3, .int .i64 i), (21, .bool (decide (((xd11.length : Nat) : Int) > 1000)))] ((True) ∧ (True) ∧ (True) ∧ True) rfl (by kernel_rfl) ⟨trivial, trivial, trivial, trivial⟩ ?_
      refine RunR.env [0, 3, 21] [(0, .slice As l.length cs), (3, .int .i64 i), (21, .bool (decide (((xd11.length : Nat) : Int) > 1000)))] (by kernel_rfl) ?_
      by_cases h25 : ((xd11.length : Nat) : Int) > 1000
      · skip
        refine RunR.enveq [(0, .slice As l.length cs), (3, .int .i64 i), (21, .bool true)] (by rw [decide_eq_true h25]; try rfl) ?_
        refine RunR.sil hU [] 8 16 [0, 3, 29] [(0, .slice As l.length cs), (3, .int .i64 i), (29, .bool true)] ((True) ∧ True) rfl (by kernel_rfl) ⟨trivial, trivial⟩ ?_
        refine RunR.done (by kernel_rfl) ?_
        refine kseq_n ?_
        refine RunC.cond (b := true) (by kernel_rfl) (fun _ => ?_) (fun h => by cases h)
        refine RunC.seq ?_
        refine RunC.region ?_
        refine RunR.sil hU [] 1 1 [0, 2, 3] [(0, .slice As l.length cs), (2, .bool false), (3, .int .i64 i)] ((True) ∧ True) rfl (by kernel_rfl) ⟨trivial, trivial⟩ ?_
        refine RunR.done (by kernel_rfl) ?_
        refine kseq_n ?_
        refine RunC.ret ?_
        refine kblock_r ?_
        refine kseq_r ?_
        refine kloop_r ?_
        refine kblock_r ?_
        refine kseq_r ?_
        refine kret_r [.bool false] [] [] ⟨rfl, trivial⟩ (by kernel_rfl) rfl ⟨false, rfl, rfl, (by intro h; cases h)⟩
      · skip
        refine RunR.enveq [(0, .slice As l.length cs), (3, .int .i64 i), (21, .bool false)] (by rw [decide_eq_false h25]; try rfl) ?_
        refine RunR.sil hU [] 3 11 [0, 3, 21, 24] [(0, .slice As l.length cs), (3, .int .i64 i), (21, .bool false), (24, .pointer (elemAt As i 4))] ((True) ∧ (True) ∧ ((0 ≤ i ∧ i < ((l.length : Nat) : Int)) ∧ Option.isSome As = true) ∧ True) rfl (by kernel_rfl) ⟨trivial, trivial, ⟨by omega, hA1 (by omega)⟩, trivial⟩ ?_
        refine RunR.env [0, 3, 21, 24] [(0, .slice As l.length cs), (3, .int .i64 i), (21, .bool false), (24, .pointer (elemAt As i 4))] (by kernel_rfl) ?_
        refine RunR.enveq [(0, .slice As l.length cs), (3, .int .i64 i), (21, .bool false), (24, .pointer (some ⟨b4, o5 + (i).toNat * 4, none⟩))] (by rw [elem_at hA6]) ?_
        refine RunR.sil hU [] 1 12 [0, 3, 21, 25] [(0, .slice As l.length cs), (3, .int .i64 i), (21, .bool false), (25, .pointer (some ⟨b4, o5 + (i).toNat * 4 + 3, none⟩))] ((True) ∧ True) rfl (by kernel_rfl) ⟨trivial, trivial⟩ ?_
        refine RunR.step (dst := some 26) (op := .load 52 (.tmp 25)) (by kernel_rfl) (Step.load_vwat hU 0 As b4 o5 ((i).toNat * 4 + 3) (doV l) (.slice Bd12 bd14.length dd13) hA6 (by kernel_rfl) (by kernel_rfl) (loadv_do0 (by kernel_rfl) hg15).2.2.2 (by kernel_rfl) (by have := (List.getElem?_eq_some_iff.1 hg15).1; rw [doV_len]; omega) ?_)
        refine RunR.sil hU [] 3 16 [0, 3, 29] [(0, .slice As l.length cs), (3, .int .i64 i), (29, .bool (decide (((bd14.length : Nat) : Int) > 1000)))] ((True) ∧ (True) ∧ (True) ∧ True) rfl (by kernel_rfl) ⟨trivial, trivial, trivial, trivial⟩ ?_
        refine RunR.done (by kernel_rfl) ?_
        refine kseq_n ?_
        refine RunC.condp (((bd14.length : Nat) : Int) > 1000) (by kernel_rfl) (fun h26 => ?_) (fun h26 => ?_)
        · skip
          refine RunC.seq ?_
          refine RunC.region ?_
          refine RunR.sil hU [] 1 1 [0, 2, 3] [(0, .slice As l.length cs), (2, .bool false), (3, .int .i64 i)] ((True) ∧ True) rfl (by kernel_rfl) ⟨trivial, trivial⟩ ?_
          refine RunR.done (by kernel_rfl) ?_
          refine kseq_n ?_
          refine RunC.ret ?_
          refine kblock_r ?_
          refine kseq_r ?_
          refine kloop_r ?_
          refine kblock_r ?_
          refine kseq_r ?_
          refine kret_r [.bool false] [] [] ⟨rfl, trivial⟩ (by kernel_rfl) rfl ⟨false, rfl, rfl, (by intro h; cases h)⟩
        · skip
          refine RunC.skip ?_
          refine kblock_n ?_
          refine kseq_n ?_
          refine RunC.region ?_
          refine RunR.sil hU [1] 3 3 [0, 3] [(0, .slice As l.length cs), (3, .int .i64 (i + 1))] ((True) ∧ (-9223372036854775808 ≤ (i + 1) ∧ (i + 1) < 9223372036854775808) ∧ (True) ∧ True) rfl (by kernel_rfl) ⟨trivial, (by omega), trivial, trivial⟩ ?_
          refine RunR.done (by kernel_rfl) ?_
          refine kloop_n _ [0, 3] [0, 0, 0] [(0, .slice As l.length cs), (3, .int .i64 (i + 1))] [vw As (doV l), vws (doL l), vws (doB l)] (by kernel_rfl) (by kernel_rfl) ?_ ⟨(i + 1), (by first | assumption | omega | (simp only [List.length_append, List.length_cons, List.length_nil, List.length_set, List.length_replicate, List.length_take, List.length_drop]; omega) | (simp only [fits] at *; omega) | (simp only [List.length_append, List.length_cons, List.length_nil, List.length_set, List.length_replicate, List.length_take, List.length_drop] at *; omega) | (simp; done) | decide), (by first | assumption | omega | (simp only [List.length_append, List.length_cons, List.length_nil, List.length_set, List.length_replicate, List.length_take, List.length_drop]; omega) | (simp only [fits] at *; omega) | (simp only [List.length_append, List.length_cons, List.length_nil, List.length_set, List.length_replicate, List.length_take, List.length_drop] at *; omega) | (simp; done) | decide), (by first | assumption | omega | (simp only [List.length_append, List.length_cons, List.length_nil, List.length_set, List.length_replicate, List.length_take, List.length_drop]; omega) | (simp only [fits] at *; omega) | (simp only [List.length_append, List.length_cons, List.length_nil, List.length_set, List.length_replicate, List.length_take, List.length_drop] at *; omega) | (simp; done) | decide), (by rw [show (i + 1).toNat = i.toNat + 1 by omega]; exact hS.succ (by assumption) (by omega) (by omega)), rfl, (by first | rfl | simp only [List.length_set]), (by first | rfl | simp only [List.length_set])⟩
          show ((60 - (i + 1)).toNat : Nat) < ((60 - i).toNat : Nat)
          omega
    · skip
      refine RunC.exit ?_
      refine kseq_e ?_
      refine kloop_e ?_
      refine kblock_e ?_
      refine kseq_n ?_
      refine RunC.seq ?_
      refine RunC.region ?_
      refine RunR.sil hU [] 1 1 [2] [(2, .bool true)] ((True) ∧ True) rfl (by kernel_rfl) ⟨trivial, trivial⟩ ?_
      refine RunR.done (by kernel_rfl) ?_
      refine kseq_n ?_
      refine RunC.ret ?_
      refine kret_r [.bool true] [] [] ⟨rfl, trivial⟩ (by kernel_rfl) rfl ⟨true, rfl, rfl, (by intro _; exact hS.over (by omega))⟩
  · skip
    refine RunR.enveq [(0, .slice As l.length cs), (3, .int .i64 i), (8, .bool false)] (by rw [decide_eq_false h2]; try rfl) ?_
    refine RunR.sil hU [] 3 8 [0, 3, 11] [(0, .slice As l.length cs), (3, .int .i64 i), (11, .bool false)] ((True) ∧ True) rfl (by kernel_rfl) ⟨trivial, trivial⟩ ?_
    refine RunR.done (by kernel_rfl) ?_
    refine kseq_n ?_
    refine RunC.cond (b := false) (by kernel_rfl) (fun h => by cases h) (fun _ => ?_)
    refine RunC.exit ?_
    refine kseq_e ?_
    refine kloop_e ?_
    refine kblock_e ?_
    refine kseq_n ?_
    refine RunC.seq ?_
    refine RunC.region ?_
    refine RunR.sil hU [] 1 1 [2] [(2, .bool true)] ((True) ∧ True) rfl (by kernel_rfl) ⟨trivial, trivial⟩ ?_
    refine RunR.done (by kernel_rfl) ?_
    refine kseq_n ?_
    refine RunC.ret ?_
    refine kret_r [.bool true] [] [] ⟨rfl, trivial⟩ (by kernel_rfl) rfl ⟨true, rfl, rfl, (by intro _; exact hS.over (by omega))⟩
end Go.Proofs.Ytcpohiegijpghaa.X6
