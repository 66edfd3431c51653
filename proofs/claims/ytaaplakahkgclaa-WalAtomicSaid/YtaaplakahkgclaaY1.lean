/- What these functions compute: a contract for each, walked through its code. -/
import Derived.Test.YtaaplakahkgclaaSLzk
import Derived.Test.YtaaplakahkgclaaBPure
import Derived.Test.YtaaplakahkgclaaProg
import Derived.Test.YtaaplakahkgclaaX1
import Derived.Test.YtaaplakahkgclaaX2
import Derived.Test.YtaaplakahkgclaaX3
import Derived.Test.YtaaplakahkgclaaX4
import Derived.Test.YtaaplakahkgclaaX5
import Derived.Test.YtaaplakahkgclaaX6
import Derived.Test.YtaaplakahkgclaaX7
import Derived.Test.YtaaplakahkgclaaX8
import Derived.Test.YtaaplakahkgclaaX9
namespace Go.Proofs.Ytaaplakahkgclaa.Y1
open Go Go.Proofs.Ytaaplakahkgclaa.SL Go.Proofs.Ytaaplakahkgclaa.SL.W Go.Proofs.Ytaaplakahkgclaa.SL.D Go.Proofs.Ytaaplakahkgclaa.X1 Go.Proofs.Ytaaplakahkgclaa.X2 Go.Proofs.Ytaaplakahkgclaa.X3 Go.Proofs.Ytaaplakahkgclaa.X4 Go.Proofs.Ytaaplakahkgclaa.X5 Go.Proofs.Ytaaplakahkgclaa.X6 Go.Proofs.Ytaaplakahkgclaa.X7 Go.Proofs.Ytaaplakahkgclaa.X8 Go.Proofs.Ytaaplakahkgclaa.X9
set_option linter.unusedVariables false
set_option linter.unusedSimpArgs false
set_option maxRecDepth 100000
set_option maxHeartbeats 40000000
def U : Tab where
  und := [(3, .int .i64), (5, .int .u8), (23, .slice 5), (39, .slice 23)]
  fld := []
  sz := [(3, 1), (5, 1), (23, 1), (39, 1)]
  ti := [(3, (1, 8, .int .i64 0)), (5, (1, 1, .int .u8 0)), (23, (1, 24, .slice none 0 0)), (39, (1, 24, .slice none 0 0))]
  bld := []

theorem hU : U.OK Try.prog where
  und := by
    intro p hp
    simp only [U, List.mem_cons, List.not_mem_nil, or_false] at hp
    rcases hp with rfl | rfl | rfl | rfl
    · exact Try.underlying3
    · exact Try.underlying5
    · exact Try.underlying23
    · exact Try.underlying39
  fld := by
    intro p hp; cases hp
  sz := by
    intro p hp
    simp only [U, List.mem_cons, List.not_mem_nil, or_false] at hp
    rcases hp with rfl | rfl | rfl | rfl
    · exact ⟨Try.prog.types[3]!, by kernel_rfl, by kernel_rfl⟩
    · exact ⟨Try.prog.types[5]!, by kernel_rfl, by kernel_rfl⟩
    · exact ⟨Try.prog.types[23]!, by kernel_rfl, by kernel_rfl⟩
    · exact ⟨Try.prog.types[39]!, by kernel_rfl, by kernel_rfl⟩
  ti := by
    intro p hp
    simp only [U, List.mem_cons, List.not_mem_nil, or_false] at hp
    rcases hp with rfl | rfl | rfl | rfl
    · exact ⟨Try.prog.types[3]!, by kernel_rfl, by kernel_rfl, by kernel_rfl, by kernel_rfl⟩
    · exact ⟨Try.prog.types[5]!, by kernel_rfl, by kernel_rfl, by kernel_rfl, by kernel_rfl⟩
    · exact ⟨Try.prog.types[23]!, by kernel_rfl, by kernel_rfl, by kernel_rfl, by kernel_rfl⟩
    · exact ⟨Try.prog.types[39]!, by kernel_rfl, by kernel_rfl, by kernel_rfl, by kernel_rfl⟩
  bld := by
    intro p hp; cases hp
  mixed := by kernel_rfl

theorem wr_Same_spec (Aa : Option Addr) (na : Nat) (ca : Nat) (xa : List Ro) (Ab : Option Addr) (nb : Nat) (cb : Nat) (xb : List Ro) (hKxa : RowsOK .u8 xa) (hlxa : xa.length = na) (hbxa : na ≤ 1000000) (hKxb : RowsOK .u8 xb) (hlxb : xb.length = nb) (hbxb : nb ≤ 1000000) :
    CallsS Try.prog 17 [.slice Aa na ca, .slice Ab nb cb] [vw Aa (rowsV xa), vws (rowsL .u8 xa), vw Ab (rowsV xb), vws (rowsL .u8 xb)] (fun r D => r = .bool (decide (rb xa = rb xb)) ∧ D = []) := by
  refine CallsS.enter hU Try.f17 _ [.tmp 4] 27 Try.func17 rfl (by decide) rfl rfl (by kernel_rfl) fun w0 W => ?_
  refine RunC.know (p := 0 < xa.length → Option.isSome Aa = true) (fun _ _ w hs => vw_some hs 0 rfl (by simp [rowsV_len])) (fun hA1 => ?_)
  refine RunC.know (p := 0 < xb.length → Option.isSome Ab = true) (fun _ _ w hs => vw_some hs 2 rfl (by simp [rowsV_len])) (fun hA2 => ?_)
  refine RunC.sr ?_
  refine RunR.sl hU [] 1 1 [0, 1, 4] [(0, .slice Aa na ca), (1, .slice Ab nb cb), (4, .bool false)] 1 ?_
  refine RunR.nn ?_
  refine RunC.seq ?_
  refine RunC.sr ?_
  refine RunR.sl hU [] 5 5 [0, 1, 4, 10] [(0, .slice Aa na ca), (1, .slice Ab nb cb), (4, .bool false), (10, .bool (!decide (((na : Nat) : Int) = ((nb : Nat) : Int))))] 5 ?_
  refine RunR.nn ?_
  refine RunC.condn (((na : Nat) : Int) = ((nb : Nat) : Int)) (by kernel_rfl) (fun h3 => ?_) (fun h3 => ?_)
  · skip
    refine RunC.sr ?_
    refine RunR.sl hU [] 1 1 [0, 1, 4] [(0, .slice Aa na ca), (1, .slice Ab nb cb), (4, .bool false)] 1 ?_
    refine RunR.nn ?_
    refine RunC.ret ?_
    refine kseq_r ?_
    refine kret_r [.bool false] [] [] ⟨rfl, trivial⟩ (by kernel_rfl) rfl ⟨(by (exact congrArg Value.bool (decide_eq_false (fun e => absurd (congrArg List.length e) (by rw [rb_len, rb_len]; omega))).symm)), (by rfl)⟩
  · skip
    refine RunC.ks ?_
    refine RunC.seq ?_
    refine RunC.sr ?_
    refine RunR.sl hU [] 1 1 [0, 1, 4, 5] [(0, .slice Aa na ca), (1, .slice Ab nb cb), (4, .bool false), (5, .int .i64 0)] 1 ?_
    refine RunR.nn ?_
    refine RunC.block ?_
    refine RunC.env [0, 1, 5] [(0, .slice Aa na ca), (1, .slice Ab nb cb), (5, .int .i64 0)] (by kernel_rfl) ?_
    refine RunC.only [0, 0, 0, 0] [vw Aa (rowsV xa), vws (rowsL .u8 xa), vw Ab (rowsV xb), vws (rowsL .u8 xb)] (by kernel_rfl) ?_
    refine RunC.loop (σ := Nat) (fun n_ t_ D_ => ∃ (i : Int), (0 ≤ i) ∧ (i ≤ (na : Int)) ∧ ((rb xa).take i.toNat = (rb xb).take i.toNat) ∧ n_ = ((na - i).toNat : Nat) ∧ t_ = [(0, .slice Aa na ca), (1, .slice Ab nb cb), (5, .int .i64 i)] ∧ D_ = [vw Aa (rowsV xa), vws (rowsL .u8 xa), vw Ab (rowsV xb), vws (rowsL .u8 xb)]) id _ ⟨0, (by omega), (by omega), (by rfl), rfl, rfl, rfl⟩ ?_
    rintro n_ _ _ ⟨i, hi, hin, hp, rfl, rfl, rfl⟩
    refine RunC.seq ?_
    refine RunC.sr ?_
    refine RunR.sl hU [] 4 4 [0, 1, 5, 14] [(0, .slice Aa na ca), (1, .slice Ab nb cb), (5, .int .i64 i), (14, .bool (decide (i < ((na : Nat) : Int))))] 4 ?_
    refine RunR.nn ?_
    refine RunC.condp (i < ((na : Nat) : Int)) (by kernel_rfl) (fun h4 => ?_) (fun h4 => ?_)
    · skip
      refine RunC.ks ?_
      refine RunC.seq ?_
      refine RunC.block ?_
      refine RunC.seq ?_
      refine RunC.regionU hU 10 [vw Aa (rowsV xa), vw Ab (rowsV xb)] [0, 2] [8] (bm 10 0) (by kernel_rfl) (by kernel_rfl) (by kernel_rfl) ?_
      refine RunU.sl hU 0 (bm 10 1) 17 (.slice Aa na ca) ?_
      refine RunU.sl hU 1 (bm 10 3) 18 (.int .i64 i) ?_
      refine RunU.sil hU false 2 (bm 10 7) 19 (.pointer (elemAt Aa i 1)) ((0 ≤ i ∧ i < ((na : Nat) : Int)) ∧ Option.isSome Aa = true) (by kernel_rfl) ⟨by omega, hA1 (by omega)⟩ (by kernel_rfl) (by kernel_rfl) (fun _ _ _ h => h) ?_
      obtain ⟨Ae5, ce6, xe7, hg8, hr9, hc10, hl11⟩ := row_at (by assumption : RowsOK .u8 xa) (i := (i).toNat) (by omega)
      refine RunU.rd 3 (bm 10 15) 20 (.load 23 (.tmp 19)) (.slice Ae5 xe7.length ce6) [0, 2] (Reads.load hU 0 (vw Aa (rowsV xa)) Aa i 1 (rowsV xa) (.slice Ae5 xe7.length ce6) (by kernel_rfl) (by kernel_rfl) (tells_vw _ _) (by rw [rowsV_len]; omega) (loadv_row (by kernel_rfl) hg8 (Nat.mul_one _))) ?_
      refine RunU.sl hU 4 (bm 10 31) 21 (.slice Ab nb cb) ?_
      refine RunU.sl hU 5 (bm 10 63) 22 (.int .i64 i) ?_
      refine RunU.sil hU false 6 (bm 10 127) 23 (.pointer (elemAt Ab i 1)) ((0 ≤ i ∧ i < ((nb : Nat) : Int)) ∧ Option.isSome Ab = true) (by kernel_rfl) ⟨by omega, hA2 (by omega)⟩ (by kernel_rfl) (by kernel_rfl) (fun _ _ _ h => h) ?_
      obtain ⟨Ae12, ce13, xe14, hg15, hr16, hc17, hl18⟩ := row_at (by assumption : RowsOK .u8 xb) (i := (i).toNat) (by omega)
      refine RunU.rd 7 (bm 10 255) 24 (.load 23 (.tmp 23)) (.slice Ae12 xe14.length ce13) [0, 2] (Reads.load hU 1 (vw Ab (rowsV xb)) Ab i 1 (rowsV xb) (.slice Ae12 xe14.length ce13) (by kernel_rfl) (by kernel_rfl) (tells_vw _ _) (by rw [rowsV_len]; omega) (loadv_row (by kernel_rfl) hg15 (Nat.mul_one _))) ?_
      refine RunU.on (some 25) (.call { callee := .value (.func 34), args := #[.tmp 20, .tmp 24], argTypes := #[23, 23] }) 8 (bm 10 511) [] (Step.cl 34 [.slice Ae5 xe7.length ce6, .slice Ae12 xe14.length ce13] [] [vw Ae5 (nums .u8 xe7), vw Ae12 (nums .u8 xe14)] [vw Aa (rowsV xa), vws (rowsL .u8 xa), vw Ab (rowsV xb), vws (rowsL .u8 xb)] (r_Equal_spec Ae5 ce6 xe7 Ae12 ce13 xe14 xe7.length xe14.length hr9 (by assumption) hr16 (by assumption) (by rfl) (by rfl)) [] (((Lend.nil _).tells 3 (vws (rowsL .u8 xb)) Ae12 (nums .u8 xe14) (by kernel_rfl) (tells_rows hg15)).tells 1 (vws (rowsL .u8 xa)) Ae5 (nums .u8 xe7) (by kernel_rfl) (tells_rows hg8)) ?_)
      rintro _ _ ⟨rfl, rfl⟩
      refine orR ?_
      refine RunU.sl hU 9 (bm 10 1023) 26 (.bool (!decide (xe7 = xe14))) ?_
      refine RunU.ev [0, 1, 5, 26] [(0, .slice Aa na ca), (1, .slice Ab nb cb), (5, .int .i64 i), (26, .bool (!decide (xe7 = xe14)))] ?_
      refine RunU.dn ?_
      refine kseq_n ?_
      refine RunC.condn (xe7 = xe14) (by kernel_rfl) (fun h19 => ?_) (fun h19 => ?_)
      · skip
        refine RunC.sr ?_
        refine RunR.sl hU [] 1 1 [0, 1, 4, 5] [(0, .slice Aa na ca), (1, .slice Ab nb cb), (4, .bool false), (5, .int .i64 i)] 1 ?_
        refine RunR.nn ?_
        refine RunC.ret ?_
        refine kblock_r ?_
        refine kseq_r ?_
        refine kloop_r ?_
        refine kblock_r ?_
        refine kseq_r ?_
        refine kret_r [.bool false] [] [] ⟨rfl, trivial⟩ (by kernel_rfl) rfl ⟨(by (exact congrArg Value.bool (decide_eq_false (rb_ne (by assumption) (by assumption) (by assumption))).symm)), (by rfl)⟩
      · skip
        refine RunC.skip ?_
        refine kblock_n ?_
        refine kseq_n ?_
        refine RunC.region ?_
        refine RunR.sil hU [1] 3 3 [0, 1, 5] [(0, .slice Aa na ca), (1, .slice Ab nb cb), (5, .int .i64 (i + 1))] ((True) ∧ (-9223372036854775808 ≤ (i + 1) ∧ (i + 1) < 9223372036854775808) ∧ (True) ∧ True) rfl (by kernel_rfl) ⟨trivial, (by omega), trivial, trivial⟩ ?_
        refine RunR.dn ?_
        refine kloop_n _ [0, 1, 5] [0, 0, 0, 0] [(0, .slice Aa na ca), (1, .slice Ab nb cb), (5, .int .i64 (i + 1))] [vw Aa (rowsV xa), vws (rowsL .u8 xa), vw Ab (rowsV xb), vws (rowsL .u8 xb)] (by kernel_rfl) (by kernel_rfl) ?_ ⟨(i + 1), (by omega), (by assumption), (by rw [show (i + 1).toNat = i.toNat + 1 by omega]; exact rb_next hp (by assumption) (by assumption) (by assumption)), rfl, (by rfl), (by rfl)⟩
        show ((na - (i + 1)).toNat : Nat) < ((na - i).toNat : Nat)
        omega
    · skip
      refine RunC.exit ?_
      refine kseq_e ?_
      refine kloop_e ?_
      refine kblock_e ?_
      refine kseq_n ?_
      refine RunC.sr ?_
      refine RunR.sl hU [] 1 1 [4] [(4, .bool true)] 1 ?_
      refine RunR.nn ?_
      refine RunC.ret ?_
      refine kret_r [.bool true] [] [] ⟨rfl, trivial⟩ (by kernel_rfl) rfl ⟨(by (exact congrArg Value.bool (decide_eq_true (rb_eq hp (by omega) (by omega))).symm)), (by rfl)⟩

theorem wl_seen_spec (wj : Nat) (d : Nat) (A : Option Addr) (n : Nat) (c : Nat) (ss : List Int) (Wa : Option Addr) (m : Nat) (wc : Nat) (ws : List Ch) (lf : Int) (dn : Bool) (hss : In .u8 ss) (hnl : ss.length = n) (hnc : n ≤ c) (hAs : 0 < n → Option.isSome A = true) (hn6 : n % 256 = 0) (hnb : n ≤ 557056) (hml : ws.length = m) (hmb : m ≤ 900000) (hok : ChOK .u8 ws) (hwk : WOK n ws) (hWs : 0 < m → Option.isSome Wa = true) :
    CallsS Try.prog 18 [pt wj] [blk wj 72 [pt d], blk d 70 [.slice A n c, .slice Wa m wc, .int .i64 lf, .bool dn], row 5 1 (.slice A n c) n (nums .u8 ss), row 51 2 (.slice Wa m wc) m (chV ws), chd .u8 ws] (fun r D => ∃ (A9 : Option Addr) (n9 : Nat) (c9 : Nat) (zs : List Ro), r = .slice A9 n9 c9 ∧ D = [row 23 1 (.slice A9 n9 c9) n9 (rowsV zs), rws .u8 zs, blk wj 72 [pt d], blk d 70 [.slice A n c, .slice Wa m wc, .int .i64 lf, .bool dn], row 5 1 (.slice A n c) n (nums .u8 ss), row 51 2 (.slice Wa m wc) m (chV ws), chd .u8 ws] ∧ (rb zs = seenW n ss (dat ws)) ∧ (RowsOK .u8 zs) ∧ (zs.length = n9) ∧ (n9 ≤ c9) ∧ (n9 ≤ 1000000) ∧ (0 < n9 → Option.isSome A9 = true)) := by
  refine CallsS.enter hU Try.f18 _ [.tmp 2] 24 Try.func18 rfl (by decide) rfl rfl (by kernel_rfl) fun w0 W => ?_
  refine RunC.sr ?_
  refine RunR.sl hU [] 1 1 [0, 2] [(0, pt wj), (2, .slice none 0 0)] 1 ?_
  refine RunR.nx ?_
  refine RunR.sl hU [] 1 1 [0, 2, 3] [(0, pt wj), (2, .slice none 0 0), (3, .slice none 0 0)] 1 ?_
  refine RunR.nn ?_
  refine RunC.seq ?_
  refine RunC.sr ?_
  refine RunR.sl hU [] 1 1 [0, 2, 3, 4] [(0, pt wj), (2, .slice none 0 0), (3, .slice none 0 0), (4, .int .i64 0)] 1 ?_
  refine RunR.nn ?_
  refine RunC.block ?_
  refine RunC.turn ([row 23 1 (.slice none 0 0) 0 (rowsV ([] : List Ro)), blk wj 72 [pt d], blk d 70 [.slice A n c, .slice Wa m wc, .int .i64 lf, .bool dn], row 5 1 (.slice A n c) n (nums .u8 ss), row 51 2 (.slice Wa m wc) m (chV ws), chd .u8 ws]) (fun _ _ w hs => hs.nil_row 23 1) ?_
  refine RunC.turn ([rws .u8 ([] : List Ro), row 23 1 (.slice none 0 0) 0 (rowsV ([] : List Ro)), blk wj 72 [pt d], blk d 70 [.slice A n c, .slice Wa m wc, .int .i64 lf, .bool dn], row 5 1 (.slice A n c) n (nums .u8 ss), row 51 2 (.slice Wa m wc) m (chV ws), chd .u8 ws]) (fun _ _ w hs => hs.rws0 .u8) ?_
  refine RunC.env [0, 2, 3, 4] [(0, pt wj), (2, .slice none 0 0), (3, .slice none 0 0), (4, .int .i64 0)] (by kernel_rfl) ?_
  refine RunC.only [1, 0, 0, 0, 0, 0, 0] [row 23 1 (.slice none 0 0) 0 (rowsV ([] : List Ro)), rws .u8 ([] : List Ro), blk wj 72 [pt d], blk d 70 [.slice A n c, .slice Wa m wc, .int .i64 lf, .bool dn], row 5 1 (.slice A n c) n (nums .u8 ss), row 51 2 (.slice Wa m wc) m (chV ws), chd .u8 ws] (by kernel_rfl) ?_
  refine RunC.loop (σ := Nat) (fun n_ t_ D_ => ∃ (i : Int) (A5 : Option Addr) (n5 : Nat) (c5 : Nat) (os : List Ro), (0 ≤ i) ∧ ((n5 : Int) = i) ∧ (i ≤ 2200) ∧ (rb os = seenK ss (dat ws) i.toNat) ∧ (i = 0 ∨ i ≤ (n : Int) / 256 - 42) ∧ (RowsOK .u8 os) ∧ (os.length = n5) ∧ (n5 ≤ c5) ∧ (n5 ≤ 1000000) ∧ (0 < n5 → Option.isSome A5 = true) ∧ n_ = (((n : Int) / 256 - 42 - i).toNat : Nat) ∧ t_ = [(0, pt wj), (2, .slice none 0 0), (3, .slice A5 n5 c5), (4, .int .i64 i)] ∧ D_ = [row 23 1 (.slice A5 n5 c5) n5 (rowsV os), rws .u8 os, blk wj 72 [pt d], blk d 70 [.slice A n c, .slice Wa m wc, .int .i64 lf, .bool dn], row 5 1 (.slice A n c) n (nums .u8 ss), row 51 2 (.slice Wa m wc) m (chV ws), chd .u8 ws]) id _ ⟨0, none, 0, 0, ([] : List Ro), (by omega), (by omega), (by omega), (by rfl), (by exact .inl rfl), (by exact RowsOK.nil _), (by rfl), (by exact Nat.le_refl _), (by omega), (by intro h; omega), rfl, rfl, rfl⟩ ?_
  rintro n_ _ _ ⟨i, A5, n5, c5, os, hi, hin, hi2, hos, hend, hKos, hlos, hcos, hbos, hAos, rfl, rfl, rfl⟩
  refine RunC.seq ?_
  refine RunC.sr ?_
  refine RunR.sl hU [] 2 2 [0, 2, 3, 4, 7, 8] [(0, pt wj), (2, .slice none 0 0), (3, .slice A5 n5 c5), (4, .int .i64 i), (7, .int .i64 i), (8, pt wj)] 2 ?_
  refine RunR.st (some 9) (.call { callee := .value (.func 29), args := #[.tmp 8], argTypes := #[32] }) (Step.cn 29 [pt wj] [blk wj 72 [pt d], blk d 70 [.slice A n c, .slice Wa m wc, .int .i64 lf, .bool dn]] [row 23 1 (.slice A5 n5 c5) n5 (rowsV os), rws .u8 os, row 5 1 (.slice A n c) n (nums .u8 ss), row 51 2 (.slice Wa m wc) m (chV ws), chd .u8 ws] (wl_Blocks_spec wj d A n c Wa m wc lf dn (by assumption) (by assumption)) [2, 2] ?_)
  rintro _ _ ⟨rfl, rfl⟩
  refine RunR.sl hU [] 1 4 [0, 2, 3, 4, 10] [(0, pt wj), (2, .slice none 0 0), (3, .slice A5 n5 c5), (4, .int .i64 i), (10, .bool (decide (i < (((n : Nat) : Int) / 256 - 42))))] 1 ?_
  refine RunR.nn ?_
  refine RunC.condp (i < (((n : Nat) : Int) / 256 - 42)) (by kernel_rfl) (fun h1 => ?_) (fun h1 => ?_)
  · skip
    refine RunC.ks ?_
    refine RunC.seq ?_
    refine RunC.block ?_
    refine RunC.sr ?_
    refine RunR.sl hU [] 2 2 [0, 2, 3, 4, 14, 15] [(0, pt wj), (2, .slice none 0 0), (3, .slice A5 n5 c5), (4, .int .i64 i), (14, pt wj), (15, .int .i64 i)] 2 ?_
    refine RunR.st (some 16) (.call { callee := .value (.func 30), args := #[.tmp 14, .tmp 15], argTypes := #[32, 3] }) (Step.cn 30 [pt wj, .int .i64 i] [blk wj 72 [pt d], blk d 70 [.slice A n c, .slice Wa m wc, .int .i64 lf, .bool dn], row 5 1 (.slice A n c) n (nums .u8 ss), row 51 2 (.slice Wa m wc) m (chV ws), chd .u8 ws] [row 23 1 (.slice A5 n5 c5) n5 (rowsV os), rws .u8 os] (wl_Read_spec wj d A n c ss Wa m wc ws lf dn i hss (by assumption) (by assumption) (fun h => hAs (by exact h)) (by assumption) (by assumption) (by assumption) (by assumption) (by assumption) (by assumption) (fun h => hWs (by exact h)) (by (refine ⟨?_, ?_⟩ <;> omega))) [0, 0, 2, 2, 2] ?_)
    rintro _ _ ⟨A92, c93, zs4, e5, rfl, rfl, hp6, hp7, hp8, hp9⟩
    obtain ⟨hq10a, hq10b, hq10c⟩ := wread_ok hp6 (by omega) (by omega)
    refine RunR.sl hU [] 5 8 [0, 2, 3, 4, 5] [(0, pt wj), (2, .slice none 0 0), (3, .slice A5 n5 c5), (4, .int .i64 i), (5, .slice A92 zs4.length c93)] 5 ?_
    refine RunR.nn ?_
    refine RunC.region ?_
    refine RunR.sl hU [] 2 2 [0, 2, 3, 4, 19, 20] [(0, pt wj), (2, .slice none 0 0), (3, .slice A5 n5 c5), (4, .int .i64 i), (19, .slice A5 n5 c5), (20, .slice A92 zs4.length c93)] 2 ?_
    refine RunR.st (some 21) (.buildSlice 39 1 #[(0, .tmp 20)]) (Step.lit_rows hU 23 24 (.slice none 0 0) [.slice A92 zs4.length c93] rfl rfl (by kernel_rfl) rfl rfl (by kernel_rfl) (fun b11 => ?_))
    refine RunR.st (some 22) (.call { callee := .builtin .append, args := #[.tmp 19, .tmp 21], argTypes := #[39, 39] }) (Step.append_rows hU 23 24 (.slice none 0 0) 7 0 A5 n5 c5 os (some ⟨b11, 0, none⟩) 1 1 (row 23 1 (.slice (some ⟨b11, 0, none⟩) 1 1) 1 (rowsV ((A92, c93, zs4) :: []))) ((A92, c93, zs4) :: []) (by kernel_rfl) (by kernel_rfl) (by kernel_rfl) (by kernel_rfl) (by kernel_rfl) (by kernel_rfl) (by kernel_rfl) (tells_row _ _ _ _ _ _) (by rfl) (by omega) (by simp only [List.length_cons, List.length_nil]; omega) (by simp only [List.length_cons, List.length_nil]; omega) (by kernel_rfl) (fun Aq12 cq13 hc14 hA15 => ?_))
    have hc16 : (os ++ (A92, c93, zs4) :: [] : List Ro).length ≤ cq13 := hc14
    refine RunR.turn ([rws .u8 (os ++ (A92, c93, zs4) :: []), row 23 1 (.slice Aq12 ((os ++ (A92, c93, zs4) :: [] : List Ro).length) cq13) ((os ++ (A92, c93, zs4) :: [] : List Ro).length) (rowsV (os ++ (A92, c93, zs4) :: [])), row 23 1 (.slice (some ⟨b11, 0, none⟩) 1 1) 1 (rowsV ((A92, c93, zs4) :: [])), blk wj 72 [pt d], blk d 70 [.slice A n c, .slice Wa m wc, .int .i64 lf, .bool dn], row 5 1 (.slice A n c) n (nums .u8 ss), row 51 2 (.slice Wa m wc) m (chV ws), chd .u8 ws]) (fun _ _ w hs => SAT.rwdPush A92 c93 zs4 rfl (tells_row _ _ _ _ _ _) (hs.pulls2 [2, 7] ([row 5 1 (.slice A92 zs4.length c93) zs4.length (nums .u8 zs4), rws .u8 os, row 23 1 (.slice Aq12 ((os ++ (A92, c93, zs4) :: [] : List Ro).length) cq13) ((os ++ (A92, c93, zs4) :: [] : List Ro).length) (rowsV (os ++ (A92, c93, zs4) :: [])), row 23 1 (.slice (some ⟨b11, 0, none⟩) 1 1) 1 (rowsV ((A92, c93, zs4) :: [])), blk wj 72 [pt d], blk d 70 [.slice A n c, .slice Wa m wc, .int .i64 lf, .bool dn], row 5 1 (.slice A n c) n (nums .u8 ss), row 51 2 (.slice Wa m wc) m (chV ws), chd .u8 ws]) (by kernel_rfl))) ?_
    have hl17 : (os ++ (A92, c93, zs4) :: [] : List Ro).length = os.length + 1 := by rw [List.length_append]; rfl
    refine RunR.sl hU [] 1 5 [0, 2, 3, 4] [(0, pt wj), (2, .slice none 0 0), (3, .slice Aq12 ((os ++ (A92, c93, zs4) :: [] : List Ro).length) cq13), (4, .int .i64 i)] 1 ?_
    refine RunR.dn ?_
    refine kblock_n ?_
    refine kseq_n ?_
    refine RunC.region ?_
    refine RunR.sil hU [1] 3 3 [0, 2, 3, 4] [(0, pt wj), (2, .slice none 0 0), (3, .slice Aq12 ((os ++ (A92, c93, zs4) :: [] : List Ro).length) cq13), (4, .int .i64 (i + 1))] ((True) ∧ (-9223372036854775808 ≤ (i + 1) ∧ (i + 1) < 9223372036854775808) ∧ (True) ∧ True) rfl (by kernel_rfl) ⟨trivial, (by omega), trivial, trivial⟩ ?_
    refine RunR.dn ?_
    refine kloop_n _ [0, 2, 3, 4] [1, 0, 1, 1, 1, 1, 1] [(0, pt wj), (2, .slice none 0 0), (3, .slice Aq12 ((os ++ (A92, c93, zs4) :: [] : List Ro).length) cq13), (4, .int .i64 (i + 1))] [row 23 1 (.slice Aq12 ((os ++ (A92, c93, zs4) :: [] : List Ro).length) cq13) ((os ++ (A92, c93, zs4) :: [] : List Ro).length) (rowsV (os ++ (A92, c93, zs4) :: [])), rws .u8 (os ++ (A92, c93, zs4) :: []), blk wj 72 [pt d], blk d 70 [.slice A n c, .slice Wa m wc, .int .i64 lf, .bool dn], row 5 1 (.slice A n c) n (nums .u8 ss), row 51 2 (.slice Wa m wc) m (chV ws), chd .u8 ws] (by kernel_rfl) (by kernel_rfl) ?_ ⟨(i + 1), Aq12, ((os ++ (A92, c93, zs4) :: [] : List Ro).length), cq13, (os ++ (A92, c93, zs4) :: []), (by omega), (by omega), (by omega), (by exact seenK_succ hos hi (by assumption)), (by omega), (by exact hKos.app (by assumption) (by omega) (by omega)), (by rfl), (by assumption), (by omega), (fun h => hA15 (by exact h)), rfl, (by rfl), (by rfl)⟩
    show (((n : Int) / 256 - 42 - (i + 1)).toNat : Nat) < (((n : Int) / 256 - 42 - i).toNat : Nat)
    omega
  · skip
    refine RunC.exit ?_
    refine kseq_e ?_
    refine kloop_e ?_
    refine kblock_e ?_
    refine kseq_n ?_
    refine RunC.sr ?_
    refine RunR.sl hU [] 2 2 [2] [(2, .slice A5 n5 c5)] 2 ?_
    refine RunR.nn ?_
    refine RunC.ret ?_
    refine kret_r [.slice A5 n5 c5] [2, 2, 0, 0, 0, 0, 0] [row 23 1 (.slice A5 n5 c5) n5 (rowsV os), rws .u8 os, blk wj 72 [pt d], blk d 70 [.slice A n c, .slice Wa m wc, .int .i64 lf, .bool dn], row 5 1 (.slice A n c) n (nums .u8 ss), row 51 2 (.slice Wa m wc) m (chV ws), chd .u8 ws] ⟨rfl, trivial⟩ (by kernel_rfl) rfl ⟨A5, n5, c5, os, rfl, rfl, (by exact seenK_end hos (by omega)), (by assumption), (by assumption), (by assumption), (by omega), (by assumption)⟩

theorem wr_Ahead_spec (A8 : Option Addr) (c8 : Nat) (im : List Int) (l_im : Nat) (hIim : In .u8 im) (hCim : im.length ≤ c8) (hBim : im.length ≤ 1000000) (hl_im : im.length = l_im) :
    CallsS Try.prog 24 [.slice A8 l_im c8] [vw A8 (nums .u8 im)] (fun r D => ∃ (A9 : Option Addr) (n9 : Nat) (c9 : Nat) (zs : List Ro), r = .slice A9 n9 c9 ∧ D = [row 23 1 (.slice A9 n9 c9) n9 (rowsV zs), rws .u8 zs] ∧ (rb zs = aheadP im) ∧ (RowsOK .u8 zs) ∧ (zs.length = n9) ∧ (n9 ≤ c9) ∧ (n9 ≤ 1000000) ∧ (0 < n9 → Option.isSome A9 = true)) := by
  subst hl_im
  refine CallsS.enter hU Try.f24 _ [.tmp 2] 23 Try.func24 rfl (by decide) rfl rfl (by kernel_rfl) fun w0 W => ?_
  refine RunC.know (p := 0 < im.length → Option.isSome A8 = true) (fun _ _ w hs => vw_some hs 0 rfl (by (simp [nums_length]; done))) (fun hA1 => ?_)
  refine RunC.sr ?_
  refine RunR.sl hU [] 1 1 [0, 2] [(0, .slice A8 im.length c8), (2, .slice none 0 0)] 1 ?_
  refine RunR.nx ?_
  refine RunR.sl hU [] 1 1 [0, 2, 3] [(0, .slice A8 im.length c8), (2, .slice none 0 0), (3, .slice none 0 0)] 1 ?_
  refine RunR.nn ?_
  refine RunC.seq ?_
  refine RunC.sr ?_
  refine RunR.sl hU [] 1 1 [0, 2, 3, 4] [(0, .slice A8 im.length c8), (2, .slice none 0 0), (3, .slice none 0 0), (4, .int .i64 10752)] 1 ?_
  refine RunR.nn ?_
  refine RunC.block ?_
  refine RunC.turn ([row 23 1 (.slice none 0 0) 0 (rowsV ([] : List Ro)), vw A8 (nums .u8 im)]) (fun _ _ w hs => hs.nil_row 23 1) ?_
  refine RunC.turn ([rws .u8 ([] : List Ro), row 23 1 (.slice none 0 0) 0 (rowsV ([] : List Ro)), vw A8 (nums .u8 im)]) (fun _ _ w hs => hs.rws0 .u8) ?_
  refine RunC.env [0, 2, 3, 4] [(0, .slice A8 im.length c8), (2, .slice none 0 0), (3, .slice none 0 0), (4, .int .i64 10752)] (by kernel_rfl) ?_
  refine RunC.only [1, 0, 0] [row 23 1 (.slice none 0 0) 0 (rowsV ([] : List Ro)), rws .u8 ([] : List Ro), vw A8 (nums .u8 im)] (by kernel_rfl) ?_
  refine RunC.loop (σ := Nat) (fun n_ t_ D_ => ∃ (at_ : Int) (A5 : Option Addr) (n5 : Nat) (c5 : Nat) (os : List Ro), (at_ = 10752 + 256 * (n5 : Int)) ∧ (n5 = 0 ∨ at_ ≤ (im.length : Int)) ∧ (rb os = aheadK im n5) ∧ (RowsOK .u8 os) ∧ (os.length = n5) ∧ (n5 ≤ c5) ∧ (n5 ≤ 1000000) ∧ (0 < n5 → Option.isSome A5 = true) ∧ n_ = ((im.length - at_).toNat : Nat) ∧ t_ = [(0, .slice A8 im.length c8), (2, .slice none 0 0), (3, .slice A5 n5 c5), (4, .int .i64 at_)] ∧ D_ = [row 23 1 (.slice A5 n5 c5) n5 (rowsV os), rws .u8 os, vw A8 (nums .u8 im)]) id _ ⟨10752, none, 0, 0, ([] : List Ro), (by omega), (by omega), (by rfl), (by exact RowsOK.nil _), (by rfl), (by exact Nat.le_refl _), (by omega), (by intro h; omega), rfl, rfl, rfl⟩ ?_
  rintro n_ _ _ ⟨at_, A5, n5, c5, os, hat, hat2, hos, hKos, hlos, hcos, hbos, hAos, rfl, rfl, rfl⟩
  refine RunC.seq ?_
  refine RunC.sr ?_
  refine RunR.sil hU [1] 5 5 [0, 2, 3, 4, 9] [(0, .slice A8 im.length c8), (2, .slice none 0 0), (3, .slice A5 n5 c5), (4, .int .i64 at_), (9, .bool (decide ((at_ + 256) ≤ ((im.length : Nat) : Int))))] ((True) ∧ (-9223372036854775808 ≤ (at_ + 256) ∧ (at_ + 256) < 9223372036854775808) ∧ (True) ∧ (True) ∧ (True) ∧ True) rfl (by kernel_rfl) ⟨trivial, (by omega), trivial, trivial, trivial, trivial⟩ ?_
  refine RunR.nn ?_
  refine RunC.condp ((at_ + 256) ≤ ((im.length : Nat) : Int)) (by kernel_rfl) (fun h2 => ?_) (fun h2 => ?_)
  · skip
    refine RunC.ks ?_
    refine RunC.seq ?_
    refine RunC.block ?_
    refine RunC.region ?_
    refine RunR.sl hU [] 1 1 [0, 2, 3, 4, 12] [(0, .slice A8 im.length c8), (2, .slice none 0 0), (3, .slice A5 n5 c5), (4, .int .i64 at_), (12, .slice A5 n5 c5)] 1 ?_
    refine RunR.st (some 13) (.buildSlice 23 0 #[]) (Step.lit_nums hU 5 1 .u8 (.int .u8 0) ([] : List Int) rfl rfl (by kernel_rfl) rfl rfl (by kernel_rfl) (fun b3 => ?_))
    have hl4 : (([] : List Int)).length = 0 := rfl
    refine RunR.sil hU [5] 5 7 [0, 2, 3, 4, 12, 13, 18] [(0, .slice A8 im.length c8), (2, .slice none 0 0), (3, .slice A5 n5 c5), (4, .int .i64 at_), (12, .slice A5 n5 c5), (13, .slice (some ⟨b3, 0, none⟩) 0 0), (18, .slice (subBase A8 ((at_).toNat) c8 1) (((at_ + 256).toNat) - ((at_).toNat)) (c8 - ((at_).toNat)))] ((True) ∧ (True) ∧ (True) ∧ (-9223372036854775808 ≤ (at_ + 256) ∧ (at_ + 256) < 9223372036854775808) ∧ (0 ≤ at_ ∧ at_ ≤ (at_ + 256) ∧ (at_ + 256) ≤ ((c8 : Nat) : Int)) ∧ True) rfl (by kernel_rfl) ⟨trivial, trivial, trivial, (by omega), (by omega), trivial⟩ ?_
    obtain ⟨zs5, hz6⟩ : ∃ z : List Int, z = (im.drop ((at_).toNat)).take (((at_ + 256).toNat) - ((at_).toNat)) := ⟨_, rfl⟩
    have hl7 : zs5.length = ((at_ + 256).toNat) - ((at_).toNat) := by rw [hz6, List.length_take, List.length_drop]; omega
    have hB9_t : Tells (vw A8 (nums .u8 im)) (subBase A8 ((at_).toNat) c8 1) (nums .u8 zs5) := by rw [hz6]; exact tells_sub_nums (tells_vw _ _) _ _ _ (by omega) (by omega)
    have hA10 : 0 < zs5.length → Option.isSome (subBase A8 ((at_).toNat) c8 1) = true := fun h => part_some (hA1 (by omega)) _ _ _
    refine RunR.ev [0, 2, 3, 4, 12, 13, 18] [(0, .slice A8 im.length c8), (2, .slice none 0 0), (3, .slice A5 n5 c5), (4, .int .i64 at_), (12, .slice A5 n5 c5), (13, .slice (some ⟨b3, 0, none⟩) 0 0), (18, .slice (subBase A8 ((at_).toNat) c8 1) (((at_ + 256).toNat) - ((at_).toNat)) (c8 - ((at_).toNat)))] ?_
    refine RunR.enveq [(0, .slice A8 im.length c8), (2, .slice none 0 0), (3, .slice A5 n5 c5), (4, .int .i64 at_), (12, .slice A5 n5 c5), (13, .slice (some ⟨b3, 0, none⟩) 0 0), (18, .slice (subBase A8 ((at_).toNat) c8 1) zs5.length (c8 - ((at_).toNat)))] (by rw [hl7]) ?_
    have hr11 : In .u8 zs5 := by rw [hz6]; exact (hIim.drop _).take _
    have hl16 : (([] : List Int)).length = 0 := rfl
    refine RunR.st (some 19) (.call { callee := .builtin .append, args := #[.tmp 13, .tmp 18], argTypes := #[23, 23] }) (Step.append_nums hU 5 1 (.int .u8 0) .u8 0 3 (some ⟨b3, 0, none⟩) 0 0 ([] : List Int) (subBase A8 ((at_).toNat) c8 1) zs5.length (c8 - ((at_).toNat)) (vw A8 (nums .u8 im)) zs5 rfl rfl rfl (by kernel_rfl) (by kernel_rfl) (by kernel_rfl) (by kernel_rfl) (hB9_t) (by rfl) (by rfl) (by omega) (by omega) (by kernel_rfl) (fun Aq12 cq13 hc14 hA15 => ?_))
    simp only [List.nil_append] at hc14 hA15
    refine RunR.st (some 20) (.buildSlice 39 1 #[(0, .tmp 19)]) (Step.lit_rows hU 23 24 (.slice none 0 0) [.slice Aq12 zs5.length cq13] rfl rfl (by kernel_rfl) rfl rfl (by kernel_rfl) (fun b17 => ?_))
    refine RunR.st (some 21) (.call { callee := .builtin .append, args := #[.tmp 12, .tmp 20], argTypes := #[39, 39] }) (Step.append_rows hU 23 24 (.slice none 0 0) 2 0 A5 n5 c5 os (some ⟨b17, 0, none⟩) 1 1 (row 23 1 (.slice (some ⟨b17, 0, none⟩) 1 1) 1 (rowsV ((Aq12, cq13, zs5) :: []))) ((Aq12, cq13, zs5) :: []) (by kernel_rfl) (by kernel_rfl) (by kernel_rfl) (by kernel_rfl) (by kernel_rfl) (by kernel_rfl) (by kernel_rfl) (tells_row _ _ _ _ _ _) (by rfl) (by omega) (by simp only [List.length_cons, List.length_nil]; omega) (by simp only [List.length_cons, List.length_nil]; omega) (by kernel_rfl) (fun Aq18 cq19 hc20 hA21 => ?_))
    have hc22 : (os ++ (Aq12, cq13, zs5) :: [] : List Ro).length ≤ cq19 := hc20
    refine RunR.turn ([rws .u8 (os ++ (Aq12, cq13, zs5) :: []), row 23 1 (.slice Aq18 ((os ++ (Aq12, cq13, zs5) :: [] : List Ro).length) cq19) ((os ++ (Aq12, cq13, zs5) :: [] : List Ro).length) (rowsV (os ++ (Aq12, cq13, zs5) :: [])), row 23 1 (.slice (some ⟨b17, 0, none⟩) 1 1) 1 (rowsV ((Aq12, cq13, zs5) :: [])), vw A8 (nums .u8 im)]) (fun _ _ w hs => SAT.rwdPush Aq12 cq13 zs5 rfl (tells_row _ _ _ _ _ _) (hs.pulls2 [2, 2] ([row 5 1 (.slice Aq12 zs5.length cq13) zs5.length (nums .u8 zs5), rws .u8 os, row 23 1 (.slice Aq18 ((os ++ (Aq12, cq13, zs5) :: [] : List Ro).length) cq19) ((os ++ (Aq12, cq13, zs5) :: [] : List Ro).length) (rowsV (os ++ (Aq12, cq13, zs5) :: [])), row 23 1 (.slice (some ⟨b17, 0, none⟩) 1 1) 1 (rowsV ((Aq12, cq13, zs5) :: [])), vw A8 (nums .u8 im)]) (by kernel_rfl))) ?_
    have hl23 : (os ++ (Aq12, cq13, zs5) :: [] : List Ro).length = os.length + 1 := by rw [List.length_append]; rfl
    refine RunR.sl hU [] 1 11 [0, 2, 3, 4] [(0, .slice A8 im.length c8), (2, .slice none 0 0), (3, .slice Aq18 ((os ++ (Aq12, cq13, zs5) :: [] : List Ro).length) cq19), (4, .int .i64 at_)] 1 ?_
    refine RunR.dn ?_
    refine kblock_n ?_
    refine kseq_n ?_
    refine RunC.region ?_
    refine RunR.sil hU [1] 3 3 [0, 2, 3, 4] [(0, .slice A8 im.length c8), (2, .slice none 0 0), (3, .slice Aq18 ((os ++ (Aq12, cq13, zs5) :: [] : List Ro).length) cq19), (4, .int .i64 (at_ + 256))] ((True) ∧ (-9223372036854775808 ≤ (at_ + 256) ∧ (at_ + 256) < 9223372036854775808) ∧ (True) ∧ True) rfl (by kernel_rfl) ⟨trivial, (by omega), trivial, trivial⟩ ?_
    refine RunR.dn ?_
    refine kloop_n _ [0, 2, 3, 4] [1, 0, 1] [(0, .slice A8 im.length c8), (2, .slice none 0 0), (3, .slice Aq18 ((os ++ (Aq12, cq13, zs5) :: [] : List Ro).length) cq19), (4, .int .i64 (at_ + 256))] [row 23 1 (.slice Aq18 ((os ++ (Aq12, cq13, zs5) :: [] : List Ro).length) cq19) ((os ++ (Aq12, cq13, zs5) :: [] : List Ro).length) (rowsV (os ++ (Aq12, cq13, zs5) :: [])), rws .u8 (os ++ (Aq12, cq13, zs5) :: []), vw A8 (nums .u8 im)] (by kernel_rfl) (by kernel_rfl) ?_ ⟨(at_ + 256), Aq18, ((os ++ (Aq12, cq13, zs5) :: [] : List Ro).length), cq19, (os ++ (Aq12, cq13, zs5) :: []), (by omega), (by omega), (by rw [List.length_append, hlos]; exact aheadK_succ hos (by simp only [hz6]; congr 1 <;> first | omega | (congr 1; omega))), (by exact hKos.app (by assumption) (by omega) (by omega)), (by rfl), (by assumption), (by omega), (fun h => hA21 (by exact h)), rfl, (by rfl), (by rfl)⟩
    show ((im.length - (at_ + 256)).toNat : Nat) < ((im.length - at_).toNat : Nat)
    omega
  · skip
    refine RunC.exit ?_
    refine kseq_e ?_
    refine kloop_e ?_
    refine kblock_e ?_
    refine kseq_n ?_
    refine RunC.sr ?_
    refine RunR.sl hU [] 2 2 [2] [(2, .slice A5 n5 c5)] 2 ?_
    refine RunR.nn ?_
    refine RunC.ret ?_
    refine kret_r [.slice A5 n5 c5] [0, 0] [row 23 1 (.slice A5 n5 c5) n5 (rowsV os), rws .u8 os] ⟨rfl, trivial⟩ (by kernel_rfl) rfl ⟨A5, n5, c5, os, rfl, rfl, (by exact aheadK_end hos (by omega)), (by assumption), (by assumption), (by assumption), (by omega), (by assumption)⟩
end Go.Proofs.Ytaaplakahkgclaa.Y1
