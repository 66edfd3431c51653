/- What these functions compute: a contract for each, walked through its code. -/
import Derived.Test.YtkehpipialmneaaSLzn
import Derived.Test.YtkehpipialmneaaBPure
import Derived.Test.YtkehpipialmneaaProg
import Derived.Test.YtkehpipialmneaaX1
import Derived.Test.YtkehpipialmneaaX2
import Derived.Test.YtkehpipialmneaaX3
import Derived.Test.YtkehpipialmneaaX4
import Derived.Test.YtkehpipialmneaaX5
import Derived.Test.YtkehpipialmneaaX6
import Derived.Test.YtkehpipialmneaaX7
import Derived.Test.YtkehpipialmneaaX8
import Derived.Test.YtkehpipialmneaaX9
import Derived.Test.YtkehpipialmneaaZ1
import Derived.Test.YtkehpipialmneaaZ2
import Derived.Test.YtkehpipialmneaaS1
import Derived.Test.YtkehpipialmneaaS2
import Derived.Test.YtkehpipialmneaaS3
import Derived.Test.YtkehpipialmneaaS4
import Derived.Test.YtkehpipialmneaaS5
import Derived.Test.YtkehpipialmneaaS6
namespace Go.Proofs.Ytkehpipialmneaa.S7
open Go Go.Proofs.Ytkehpipialmneaa.SL Go.Proofs.Ytkehpipialmneaa.SL.W Go.Proofs.Ytkehpipialmneaa.SL.C Go.Proofs.Ytkehpipialmneaa.SL.H Go.Proofs.Ytkehpipialmneaa.SL.M Go.Proofs.Ytkehpipialmneaa.SL.Y Go.Proofs.Ytkehpipialmneaa.SL.A Go.Proofs.Ytkehpipialmneaa.SL.B Go.Proofs.Ytkehpipialmneaa.X1 Go.Proofs.Ytkehpipialmneaa.X2 Go.Proofs.Ytkehpipialmneaa.X3 Go.Proofs.Ytkehpipialmneaa.X4 Go.Proofs.Ytkehpipialmneaa.X5 Go.Proofs.Ytkehpipialmneaa.X6 Go.Proofs.Ytkehpipialmneaa.X7 Go.Proofs.Ytkehpipialmneaa.X8 Go.Proofs.Ytkehpipialmneaa.X9 Go.Proofs.Ytkehpipialmneaa.Z1 Go.Proofs.Ytkehpipialmneaa.Z2 Go.Proofs.Ytkehpipialmneaa.S1 Go.Proofs.Ytkehpipialmneaa.S2 Go.Proofs.Ytkehpipialmneaa.S3 Go.Proofs.Ytkehpipialmneaa.S4 Go.Proofs.Ytkehpipialmneaa.S5 Go.Proofs.Ytkehpipialmneaa.S6
set_option linter.unusedVariables false
set_option linter.unusedSimpArgs false
set_option maxRecDepth 100000
set_option maxHeartbeats 40000000
def U : Tab where
  und := [(3, .int .i64), (5, .int .u8), (24, .slice 5), (28, .int .i64), (67, .slice 24)]
  fld := []
  sz := [(3, 1), (5, 1), (24, 1), (28, 1), (67, 1)]
  ti := [(3, (1, 8, .int .i64 0)), (5, (1, 1, .int .u8 0)), (24, (1, 24, .slice none 0 0)), (28, (1, 8, .int .i64 0)), (67, (1, 24, .slice none 0 0))]
  bld := []

theorem hU : U.OK Try.prog where
  und := by
    intro p hp
    simp only [U, List.mem_cons, List.not_mem_nil, or_false] at hp
    rcases hp with rfl | rfl | rfl | rfl | rfl
    · exact Try.underlying3
    · exact Try.underlying5
    · exact Try.underlying24
    · exact Try.underlying28
    · exact Try.underlying67
  fld := by
    intro p hp; cases hp
  sz := by
    intro p hp
    simp only [U, List.mem_cons, List.not_mem_nil, or_false] at hp
    rcases hp with rfl | rfl | rfl | rfl | rfl
    · exact ⟨Try.prog.types[3]!, by kernel_rfl, by kernel_rfl⟩
    · exact ⟨Try.prog.types[5]!, by kernel_rfl, by kernel_rfl⟩
    · exact ⟨Try.prog.types[24]!, by kernel_rfl, by kernel_rfl⟩
    · exact ⟨Try.prog.types[28]!, by kernel_rfl, by kernel_rfl⟩
    · exact ⟨Try.prog.types[67]!, by kernel_rfl, by kernel_rfl⟩
  ti := by
    intro p hp
    simp only [U, List.mem_cons, List.not_mem_nil, or_false] at hp
    rcases hp with rfl | rfl | rfl | rfl | rfl
    · exact ⟨Try.prog.types[3]!, by kernel_rfl, by kernel_rfl, by kernel_rfl, by kernel_rfl⟩
    · exact ⟨Try.prog.types[5]!, by kernel_rfl, by kernel_rfl, by kernel_rfl, by kernel_rfl⟩
    · exact ⟨Try.prog.types[24]!, by kernel_rfl, by kernel_rfl, by kernel_rfl, by kernel_rfl⟩
    · exact ⟨Try.prog.types[28]!, by kernel_rfl, by kernel_rfl, by kernel_rfl, by kernel_rfl⟩
    · exact ⟨Try.prog.types[67]!, by kernel_rfl, by kernel_rfl, by kernel_rfl, by kernel_rfl⟩
  bld := by
    intro p hp; cases hp
  mixed := by kernel_rfl

theorem s_eachS_spec (p1 : Nat) (p2 : Nat) (p3 : Nat) (bk : Nat) (mv : Value) (BA : Option Addr) (bc : Nat) (L : List Bx) (A : Option Addr) (c : Nat) (ks : List Int) (A5 : Option Addr) (c5 : Nat) (hb : List Int) (A6 : Option Addr) (c6 : Nat) (cs : List Int) (B : Option Addr) (d : Nat) (rs : List Ro) (X : Option Addr) (xs : List Int) (n : Nat) (l_rs : Nat) (hL : RowsOK .u8 (bxR L)) (hIks : In .u8 ks) (hCks : ks.length ≤ c) (hBks : ks.length ≤ 1000000) (hIhb : In .u8 hb) (hChb : hb.length ≤ c5) (hBhb : hb.length ≤ 1000000) (hIcs : In .u8 cs) (hCcs : cs.length ≤ c6) (hBcs : cs.length ≤ 1000000) (hb12 : hb.length = 12) (hd : rs.length ≤ d) (hB : 0 < rs.length → Option.isSome B = true) (hro : RowsOK .u8 rs) (hpc : Pcs rs X xs n) (hcat : (cat rs).length ≤ 1000000) (hrl : rs.length ≤ 999999) (hk : ks.length = 32) (hL0 : L = []) (hl_rs : rs.length = l_rs) :
    CallsS Try.prog 28 [.slice B l_rs d, .func (.func 30) #[.agg #[.slice A5 hb.length c5, .slice A6 cs.length c6]] #[], .func (.func 31) #[] #[pt p1, pt p2, pt p3]] [blk p1 41 [.iface 57 (pt bk)], blk p2 24 [.slice A ks.length c], blk p3 64 [.slice A5 hb.length c5, .slice A6 cs.length c6], blk bk 61 [mv, .slice BA 0 bc], row 164 4 (.slice BA 0 bc) 0 (bxV L), rws .u8 (bxR L), vw B (rowsV rs), vws (rowsL .u8 rs), vw A (nums .u8 ks), vw A5 (nums .u8 hb), vw A6 (nums .u8 cs)] (fun r D => ∃ (A9 : Option Addr) (c9 : Nat) (zs : List Int) (BA9 : Option Addr) (bc9 : Nat) (M : List Bx) (nb9 : Nat), r = .tuple #[.slice A9 zs.length c9, .int .i64 0] ∧ D = [row 5 1 (.slice A9 zs.length c9) zs.length (nums .u8 zs), blk p1 41 [.iface 57 (pt bk)], blk p2 24 [.slice A ks.length c], blk p3 64 [.slice A5 hb.length c5, .slice A6 cs.length c6], blk bk 61 [mv, .slice BA9 nb9 bc9], row 164 4 (.slice BA9 nb9 bc9) nb9 (bxV M), rws .u8 (bxR M)] ∧ (zs = boxesL xs n rs.length) ∧ (zs.length ≤ (cat rs).length + 16 * rs.length) ∧ (In .u8 zs) ∧ (zs.length ≤ c9) ∧ (0 < zs.length → Option.isSome A9 = true) ∧ (bxM M = quads ks hb cs xs n rs.length) ∧ (M.length = nb9) ∧ (RowsOK .u8 (bxR M)) ∧ (nb9 ≤ bc9) ∧ (0 < nb9 → Option.isSome BA9 = true) ∧ (nb9 = rs.length)) := by
  subst hl_rs
  refine CallsS.enter hU Try.f28 _ [.tmp 6, .tmp 7] 42 Try.func28 rfl (by decide) rfl rfl (by kernel_rfl) fun w0 W => ?_
  refine RunC.know (p := 0 < ks.length → Option.isSome A = true) (fun _ _ w hs => vw_some hs 8 rfl (by (simp [nums_length]; done))) (fun hA1 => ?_)
  refine RunC.know (p := 0 < hb.length → Option.isSome A5 = true) (fun _ _ w hs => vw_some hs 9 rfl (by (simp [nums_length]; done))) (fun hA2 => ?_)
  refine RunC.know (p := 0 < cs.length → Option.isSome A6 = true) (fun _ _ w hs => vw_some hs 10 rfl (by (simp [nums_length]; done))) (fun hA3 => ?_)
  refine RunC.know (p := 0 < rs.length → Option.isSome B = true) (fun _ _ w hs => vw_some hs 6 rfl (by simp [rowsV_len])) (fun hA4 => ?_)
  refine RunC.sr ?_
  refine RunR.sl hU [] 2 2 [0, 1, 2, 6, 7] [(0, .slice B rs.length d), (1, .func (.func 30) #[.agg #[.slice A5 hb.length c5, .slice A6 cs.length c6]] #[]), (2, .func (.func 31) #[] #[pt p1, pt p2, pt p3]), (6, .slice none 0 0), (7, .int .i64 0)] 2 ?_
  refine RunR.nx ?_
  refine RunR.sl hU [] 1 1 [0, 1, 2, 6, 7, 8] [(0, .slice B rs.length d), (1, .func (.func 30) #[.agg #[.slice A5 hb.length c5, .slice A6 cs.length c6]] #[]), (2, .func (.func 31) #[] #[pt p1, pt p2, pt p3]), (6, .slice none 0 0), (7, .int .i64 0), (8, .slice none 0 0)] 1 ?_
  refine RunR.nn ?_
  refine RunC.seq ?_
  refine RunC.sr ?_
  refine RunR.sl hU [] 3 3 [0, 1, 2, 6, 7, 8, 13, 14, 15] [(0, .slice B rs.length d), (1, .func (.func 30) #[.agg #[.slice A5 hb.length c5, .slice A6 cs.length c6]] #[]), (2, .func (.func 31) #[] #[pt p1, pt p2, pt p3]), (6, .slice none 0 0), (7, .int .i64 0), (8, .slice none 0 0), (13, .slice B rs.length d), (14, .int .i64 ((rs.length : Nat) : Int)), (15, .int .i64 0)] 3 ?_
  refine RunR.nn ?_
  refine RunC.block ?_
  refine RunC.turn ([row 5 1 (.slice none 0 0) 0 (nums .u8 ([] : List Int)), blk p1 41 [.iface 57 (pt bk)], blk p2 24 [.slice A ks.length c], blk p3 64 [.slice A5 hb.length c5, .slice A6 cs.length c6], blk bk 61 [mv, .slice BA 0 bc], row 164 4 (.slice BA 0 bc) 0 (bxV L), rws .u8 (bxR L), vw B (rowsV rs), vws (rowsL .u8 rs), vw A (nums .u8 ks), vw A5 (nums .u8 hb), vw A6 (nums .u8 cs)]) (fun _ _ w hs => hs.nil_row 5 1) ?_
  refine RunC.env [0, 1, 2, 8, 13, 14, 15] [(0, .slice B rs.length d), (1, .func (.func 30) #[.agg #[.slice A5 hb.length c5, .slice A6 cs.length c6]] #[]), (2, .func (.func 31) #[] #[pt p1, pt p2, pt p3]), (8, .slice none 0 0), (13, .slice B rs.length d), (14, .int .i64 ((rs.length : Nat) : Int)), (15, .int .i64 0)] (by kernel_rfl) ?_
  refine RunC.only [0, 3, 3, 3, 0, 0, 0, 0, 0, 0, 0, 0] [row 5 1 (.slice none 0 0) 0 (nums .u8 ([] : List Int)), blk bk 61 [mv, .slice BA 0 bc], row 164 4 (.slice BA 0 bc) 0 (bxV L), rws .u8 (bxR L), blk p1 41 [.iface 57 (pt bk)], blk p2 24 [.slice A ks.length c], blk p3 64 [.slice A5 hb.length c5, .slice A6 cs.length c6], vw B (rowsV rs), vws (rowsL .u8 rs), vw A (nums .u8 ks), vw A5 (nums .u8 hb), vw A6 (nums .u8 cs)] (by kernel_rfl) ?_
  refine RunC.loop (σ := Nat) (fun n_ t_ D_ => ∃ (i : Int) (os : List Int) (A4 : Option Addr) (c4 : Nat) (BM : Option Addr) (bm : Nat) (nq : Nat) (M : List Bx), (0 ≤ i) ∧ (i ≤ rs.length) ∧ (os = boxesL xs n i.toNat) ∧ (os.length ≤ (cat (rs.take i.toNat)).length + 16 * i.toNat) ∧ (In .u8 os) ∧ (os.length ≤ c4) ∧ (0 < os.length → Option.isSome A4 = true) ∧ ((nq : Int) = i) ∧ (bxM M = quads ks hb cs xs n nq) ∧ (M.length = nq) ∧ (RowsOK .u8 (bxR M)) ∧ (nq ≤ bm) ∧ (0 < nq → Option.isSome BM = true) ∧ n_ = ((rs.length - i).toNat : Nat) ∧ t_ = [(0, .slice B rs.length d), (1, .func (.func 30) #[.agg #[.slice A5 hb.length c5, .slice A6 cs.length c6]] #[]), (2, .func (.func 31) #[] #[pt p1, pt p2, pt p3]), (8, .slice A4 os.length c4), (13, .slice B rs.length d), (14, .int .i64 ((rs.length : Nat) : Int)), (15, .int .i64 i)] ∧ D_ = [row 5 1 (.slice A4 os.length c4) os.length (nums .u8 os), blk bk 61 [mv, .slice BM nq bm], row 164 4 (.slice BM nq bm) nq (bxV M), rws .u8 (bxR M), blk p1 41 [.iface 57 (pt bk)], blk p2 24 [.slice A ks.length c], blk p3 64 [.slice A5 hb.length c5, .slice A6 cs.length c6], vw B (rowsV rs), vws (rowsL .u8 rs), vw A (nums .u8 ks), vw A5 (nums .u8 hb), vw A6 (nums .u8 cs)]) id _ ⟨0, ([] : List Int), none, 0, BA, bc, 0, L, (by omega), (by omega), (by rfl), (by exact Nat.zero_le _), (by exact In.nil _), (by exact Nat.zero_le _), (by intro h; simp at h), (by rfl), (by rw [hL0]; rfl), (by rw [hL0]; rfl), (by exact hL), (by exact Nat.zero_le _), (by intro h; simp at h), rfl, rfl, rfl⟩ ?_
  rintro n_ _ _ ⟨i, os, A4, c4, BM, bm, nq, M, hi, hi2, ho, hol, hios, hcos, hAos, hnq, hM, hML, hMr, hMc, hMA, rfl, rfl, rfl⟩
  refine RunC.sr ?_
  refine RunR.sl hU [] 1 1 [0, 1, 2, 8, 13, 14, 15, 16] [(0, .slice B rs.length d), (1, .func (.func 30) #[.agg #[.slice A5 hb.length c5, .slice A6 cs.length c6]] #[]), (2, .func (.func 31) #[] #[pt p1, pt p2, pt p3]), (8, .slice A4 os.length c4), (13, .slice B rs.length d), (14, .int .i64 ((rs.length : Nat) : Int)), (15, .int .i64 i), (16, .bool (decide (i < ((rs.length : Nat) : Int))))] 1 ?_
  refine RunR.nn ?_
  refine RunC.seq ?_
  refine RunC.condp (i < ((rs.length : Nat) : Int)) (by kernel_rfl) (fun h5 => ?_) (fun h5 => ?_)
  · skip
    refine RunC.ks ?_
    refine RunC.seq ?_
    refine RunC.block ?_
    refine RunC.sr ?_
    refine RunR.sil hU [] 2 2 [0, 1, 2, 8, 13, 14, 15, 17, 18] [(0, .slice B rs.length d), (1, .func (.func 30) #[.agg #[.slice A5 hb.length c5, .slice A6 cs.length c6]] #[]), (2, .func (.func 31) #[] #[pt p1, pt p2, pt p3]), (8, .slice A4 os.length c4), (13, .slice B rs.length d), (14, .int .i64 ((rs.length : Nat) : Int)), (15, .int .i64 i), (17, .int .i64 i), (18, .pointer (elemAt B i 1))] ((True) ∧ ((0 ≤ i ∧ i < ((rs.length : Nat) : Int)) ∧ Option.isSome B = true) ∧ True) rfl (by kernel_rfl) ⟨trivial, ⟨by omega, hA4 (by omega)⟩, trivial⟩ ?_
    obtain ⟨Ae6, ce7, xe8, hg9, hr10, hc11, hl12⟩ := row_at (by assumption : RowsOK .u8 rs) (i := (i).toNat) (by omega)
    have hcl13 := cat_at hg9
    refine RunR.st (some 19) (.load 24 (.tmp 18)) (Step.load_vw hU 7 B i 1 (rowsV rs) (.slice Ae6 xe8.length ce7) (by kernel_rfl) (by kernel_rfl) (loadv_row (by kernel_rfl) hg9 (Nat.mul_one _)) (by kernel_rfl) (by rw [rowsV_len]; omega) ?_)
    refine RunR.sl hU [] 2 5 [0, 1, 2, 8, 9, 10, 13, 14, 15] [(0, .slice B rs.length d), (1, .func (.func 30) #[.agg #[.slice A5 hb.length c5, .slice A6 cs.length c6]] #[]), (2, .func (.func 31) #[] #[pt p1, pt p2, pt p3]), (8, .slice A4 os.length c4), (9, .int .i64 i), (10, .slice Ae6 xe8.length ce7), (13, .slice B rs.length d), (14, .int .i64 ((rs.length : Nat) : Int)), (15, .int .i64 i)] 2 ?_
    refine RunR.nx ?_
    refine RunR.sil hU [6] 8 8 [0, 1, 2, 8, 10, 13, 14, 15, 21, 22, 23, 28] [(0, .slice B rs.length d), (1, .func (.func 30) #[.agg #[.slice A5 hb.length c5, .slice A6 cs.length c6]] #[]), (2, .func (.func 31) #[] #[pt p1, pt p2, pt p3]), (8, .slice A4 os.length c4), (10, .slice Ae6 xe8.length ce7), (13, .slice B rs.length d), (14, .int .i64 ((rs.length : Nat) : Int)), (15, .int .i64 i), (21, .func (.func 31) #[] #[pt p1, pt p2, pt p3]), (22, .func (.func 30) #[.agg #[.slice A5 hb.length c5, .slice A6 cs.length c6]] #[]), (23, .int .i64 i), (28, .bool (decide (i = (((rs.length : Nat) : Int) - 1))))] ((True) ∧ (True) ∧ (True) ∧ (True) ∧ (True) ∧ (True) ∧ (-9223372036854775808 ≤ (((rs.length : Nat) : Int) - 1) ∧ (((rs.length : Nat) : Int) - 1) < 9223372036854775808) ∧ (True) ∧ True) rfl (by kernel_rfl) ⟨trivial, trivial, trivial, trivial, trivial, trivial, (by omega), trivial, trivial⟩ ?_
    refine RunR.st (some 29) (.call { callee := .value (.tmp 22), args := #[.tmp 23, .tmp 28], argTypes := #[3, 4] }) (Step.cl 30 [.agg #[.slice A5 hb.length c5, .slice A6 cs.length c6], .int .i64 i, .bool (decide (i = (((rs.length : Nat) : Int) - 1)))] [] [vw A5 (nums .u8 hb)] [row 5 1 (.slice A4 os.length c4) os.length (nums .u8 os), blk bk 61 [mv, .slice BM nq bm], row 164 4 (.slice BM nq bm) nq (bxV M), rws .u8 (bxR M), blk p1 41 [.iface 57 (pt bk)], blk p2 24 [.slice A ks.length c], blk p3 64 [.slice A5 hb.length c5, .slice A6 cs.length c6], vw B (rowsV rs), vws (rowsL .u8 rs), vw A (nums .u8 ks), vw A5 (nums .u8 hb), vw A6 (nums .u8 cs)] (s_nonce_spec A5 c5 hb A6 c6 cs.length i (decide (i = (((rs.length : Nat) : Int) - 1))) hb.length hIhb (by assumption) (by assumption) (by assumption) (by omega) (by rfl)) [] ((Lend.nil _).tells 10 (vw A5 (nums .u8 hb)) A5 (nums .u8 hb) (by kernel_rfl) (tells_vw _ _)) ?_)
    rintro _ _ ⟨A914, c915, zs16, rfl, rfl, hp17, hp18, hp19, hp20⟩
    have hq21 := (congrArg List.length hp17).trans (nonceL_len hb12)
    refine RunR.sl hU [] 1 10 [0, 1, 2, 8, 13, 14, 15, 21, 29, 30] [(0, .slice B rs.length d), (1, .func (.func 30) #[.agg #[.slice A5 hb.length c5, .slice A6 cs.length c6]] #[]), (2, .func (.func 31) #[] #[pt p1, pt p2, pt p3]), (8, .slice A4 os.length c4), (13, .slice B rs.length d), (14, .int .i64 ((rs.length : Nat) : Int)), (15, .int .i64 i), (21, .func (.func 31) #[] #[pt p1, pt p2, pt p3]), (29, .slice A914 zs16.length c915), (30, .slice Ae6 xe8.length ce7)] 1 ?_
    refine RunR.st (some 31) (.call { callee := .value (.tmp 21), args := #[.tmp 29, .tmp 30], argTypes := #[24, 24] }) (Step.cl 31 [.slice A914 zs16.length c915, .slice Ae6 xe8.length ce7, pt p1, pt p2, pt p3] [blk p1 41 [.iface 57 (pt bk)], blk p2 24 [.slice A ks.length c], blk p3 64 [.slice A5 hb.length c5, .slice A6 cs.length c6], blk bk 61 [mv, .slice BM nq bm], row 164 4 (.slice BM nq bm) nq (bxV M), rws .u8 (bxR M)] [vw A (nums .u8 ks), vw A5 (nums .u8 hb), vw A6 (nums .u8 cs), vw A914 (nums .u8 zs16), vw Ae6 (nums .u8 xe8)] [row 5 1 (.slice A914 zs16.length c915) zs16.length (nums .u8 zs16), row 5 1 (.slice A4 os.length c4) os.length (nums .u8 os), vw B (rowsV rs), vws (rowsL .u8 rs), vw A (nums .u8 ks), vw A5 (nums .u8 hb), vw A6 (nums .u8 cs)] (s_doS_spec p1 p2 p3 bk mv BM bm nq M A c ks A5 c5 hb A6 c6 cs A914 c915 zs16 Ae6 ce7 xe8 zs16.length xe8.length (by assumption) (by assumption) (by omega) (by assumption) (fun h => hMA (by exact h)) hIks (by assumption) (by assumption) hIhb (by assumption) (by assumption) hIcs (by assumption) (by assumption) (by assumption) hp18 (by assumption) (by omega) hr10 (by assumption) (by omega) (by omega) (by rfl) (by rfl)) [5, 5, 5, 2, 2, 2] ((((((Lend.nil _).tells 3 (vws (rowsL .u8 rs)) Ae6 (nums .u8 xe8) (by kernel_rfl) (tells_rows hg9)).tells 0 (row 5 1 (.slice A914 zs16.length c915) zs16.length (nums .u8 zs16)) A914 (nums .u8 zs16) (by kernel_rfl) (tells_row _ _ _ _ _ _)).tells 6 (vw A6 (nums .u8 cs)) A6 (nums .u8 cs) (by kernel_rfl) (tells_vw _ _)).tells 5 (vw A5 (nums .u8 hb)) A5 (nums .u8 hb) (by kernel_rfl) (tells_vw _ _)).tells 4 (vw A (nums .u8 ks)) A (nums .u8 ks) (by kernel_rfl) (tells_vw _ _)) ?_)
    rintro _ _ ⟨A922, c923, zs24, BA925, bc926, M27, rfl, rfl, hp28, hp29, hp30, hp31, hp32, hp33, hp34, hp35, hp36, hp37⟩
    refine RunR.sl hU [] 5 16 [0, 1, 2, 8, 11, 12, 13, 14, 15] [(0, .slice B rs.length d), (1, .func (.func 30) #[.agg #[.slice A5 hb.length c5, .slice A6 cs.length c6]] #[]), (2, .func (.func 31) #[] #[pt p1, pt p2, pt p3]), (8, .slice A4 os.length c4), (11, .slice A922 zs24.length c923), (12, .int .i64 0), (13, .slice B rs.length d), (14, .int .i64 ((rs.length : Nat) : Int)), (15, .int .i64 i)] 5 ?_
    refine RunR.nn ?_
    refine RunC.seq ?_
    refine RunC.sr ?_
    refine RunR.sl hU [] 2 2 [0, 1, 2, 8, 11, 12, 13, 14, 15, 35] [(0, .slice B rs.length d), (1, .func (.func 30) #[.agg #[.slice A5 hb.length c5, .slice A6 cs.length c6]] #[]), (2, .func (.func 31) #[] #[pt p1, pt p2, pt p3]), (8, .slice A4 os.length c4), (11, .slice A922 zs24.length c923), (12, .int .i64 0), (13, .slice B rs.length d), (14, .int .i64 ((rs.length : Nat) : Int)), (15, .int .i64 i), (35, .bool false)] 2 ?_
    refine RunR.nn ?_
    refine RunC.cond (b := false) (by kernel_rfl) (fun h => by cases h) (fun _ => ?_)
    refine RunC.ks ?_
    refine RunC.region ?_
    refine RunR.sl hU [] 2 2 [0, 1, 2, 8, 13, 14, 15, 37, 38] [(0, .slice B rs.length d), (1, .func (.func 30) #[.agg #[.slice A5 hb.length c5, .slice A6 cs.length c6]] #[]), (2, .func (.func 31) #[] #[pt p1, pt p2, pt p3]), (8, .slice A4 os.length c4), (13, .slice B rs.length d), (14, .int .i64 ((rs.length : Nat) : Int)), (15, .int .i64 i), (37, .slice A4 os.length c4), (38, .slice A922 zs24.length c923)] 2 ?_
    refine RunR.st (some 39) (.call { callee := .builtin .append, args := #[.tmp 37, .tmp 38], argTypes := #[24, 24] }) (Step.append_nums hU 5 1 (.int .u8 0) .u8 8 0 A4 os.length c4 os A922 zs24.length c923 (row 5 1 (.slice A922 zs24.length c923) zs24.length (nums .u8 zs24)) zs24 rfl rfl rfl (by kernel_rfl) (by kernel_rfl) (by kernel_rfl) (by kernel_rfl) (tells_row _ _ _ _ _ _) (by rfl) (by rfl) (by omega) (by omega) (by kernel_rfl) (fun Aq38 cq39 hc40 hA41 => ?_))
    have hl42 : (os ++ zs24).length = os.length + zs24.length := List.length_append
    refine RunR.sl hU [] 1 4 [0, 1, 2, 8, 13, 14, 15] [(0, .slice B rs.length d), (1, .func (.func 30) #[.agg #[.slice A5 hb.length c5, .slice A6 cs.length c6]] #[]), (2, .func (.func 31) #[] #[pt p1, pt p2, pt p3]), (8, .slice Aq38 ((os ++ zs24).length) cq39), (13, .slice B rs.length d), (14, .int .i64 ((rs.length : Nat) : Int)), (15, .int .i64 i)] 1 ?_
    refine RunR.dn ?_
    refine kblock_n ?_
    refine kseq_n ?_
    refine RunC.region ?_
    refine RunR.sil hU [0] 2 2 [0, 1, 2, 8, 13, 14, 15] [(0, .slice B rs.length d), (1, .func (.func 30) #[.agg #[.slice A5 hb.length c5, .slice A6 cs.length c6]] #[]), (2, .func (.func 31) #[] #[pt p1, pt p2, pt p3]), (8, .slice Aq38 ((os ++ zs24).length) cq39), (13, .slice B rs.length d), (14, .int .i64 ((rs.length : Nat) : Int)), (15, .int .i64 (i + 1))] ((-9223372036854775808 ≤ (i + 1) ∧ (i + 1) < 9223372036854775808) ∧ (True) ∧ True) rfl (by kernel_rfl) ⟨(by omega), trivial, trivial⟩ ?_
    refine RunR.dn ?_
    refine kloop_n _ [0, 1, 2, 8, 13, 14, 15] [0, 4, 4, 4, 1, 1, 1, 2, 2, 2, 2, 2] [(0, .slice B rs.length d), (1, .func (.func 30) #[.agg #[.slice A5 hb.length c5, .slice A6 cs.length c6]] #[]), (2, .func (.func 31) #[] #[pt p1, pt p2, pt p3]), (8, .slice Aq38 ((os ++ zs24).length) cq39), (13, .slice B rs.length d), (14, .int .i64 ((rs.length : Nat) : Int)), (15, .int .i64 (i + 1))] [row 5 1 (.slice Aq38 ((os ++ zs24).length) cq39) ((os ++ zs24).length) (nums .u8 (os ++ zs24)), blk bk 61 [mv, .slice BA925 (nq + 1) bc926], row 164 4 (.slice BA925 (nq + 1) bc926) (nq + 1) (bxV M27), rws .u8 (bxR M27), blk p1 41 [.iface 57 (pt bk)], blk p2 24 [.slice A ks.length c], blk p3 64 [.slice A5 hb.length c5, .slice A6 cs.length c6], vw B (rowsV rs), vws (rowsL .u8 rs), vw A (nums .u8 ks), vw A5 (nums .u8 hb), vw A6 (nums .u8 cs)] (by kernel_rfl) (by kernel_rfl) ?_ ⟨(i + 1), (os ++ zs24), Aq38, cq39, BA925, bc926, (nq + 1), M27, (by omega), (by assumption), (by exact box_step hi hpc (by assumption) ho (by rw [show i.toNat = nq by omega]; assumption)), (by rw [show (i + 1).toNat = i.toNat + 1 by omega]; rw [List.length_append]; omega), (by (repeat first | assumption | with_reducible apply In.append)), (by assumption), (fun h => hA41 (by exact h)), (by omega), (by rw [show nq + 1 = (i + 1).toNat by omega]; exact quad_step hi hpc (by assumption) (by rw [← show nq = i.toNat by omega]; exact hM) hp17 hp32), (by omega), (by assumption), (by omega), (by assumption), rfl, (by rfl), (by rfl)⟩
    show ((rs.length - (i + 1)).toNat : Nat) < ((rs.length - i).toNat : Nat)
    omega
  · skip
    refine RunC.exit ?_
    refine kseq_e ?_
    refine kloop_e ?_
    refine kblock_e ?_
    refine kseq_n ?_
    refine RunC.sr ?_
    refine RunR.sl hU [] 3 3 [6, 7] [(6, .slice A4 os.length c4), (7, .int .i64 0)] 3 ?_
    refine RunR.nn ?_
    refine RunC.ret ?_
    refine kret_r [.slice A4 os.length c4, .int .i64 0] [0, 3, 3, 3, 0, 0, 0] [row 5 1 (.slice A4 os.length c4) os.length (nums .u8 os), blk p1 41 [.iface 57 (pt bk)], blk p2 24 [.slice A ks.length c], blk p3 64 [.slice A5 hb.length c5, .slice A6 cs.length c6], blk bk 61 [mv, .slice BM nq bm], row 164 4 (.slice BM nq bm) nq (bxV M), rws .u8 (bxR M)] ⟨rfl, rfl, trivial⟩ (by kernel_rfl) rfl ⟨A4, c4, os, BM, bm, M, nq, rfl, rfl, (by rw [ho, show i.toNat = rs.length by omega]), (by rw [show i.toNat = rs.length by omega, List.take_length] at hol; exact hol), hios, (by assumption), (fun h => hAos (by exact h)), (by rw [hM, show nq = rs.length by omega]), (by assumption), (by assumption), (by assumption), (by exact hMA), (by omega)⟩

theorem s_eachO_spec (p1 : Nat) (p2 : Nat) (p3 : Nat) (bk : Nat) (mv : Value) (BA : Option Addr) (bc : Nat) (nb : Nat) (L : List Bx) (A : Option Addr) (c : Nat) (ks : List Int) (A5 : Option Addr) (c5 : Nat) (hb : List Int) (A6 : Option Addr) (c6 : Nat) (cs : List Int) (B : Option Addr) (d : Nat) (rs : List Ro) (X : Option Addr) (xs : List Int) (n : Nat) (l_rs : Nat) (hL : RowsOK .u8 (bxR L)) (hIks : In .u8 ks) (hCks : ks.length ≤ c) (hBks : ks.length ≤ 1000000) (hIhb : In .u8 hb) (hChb : hb.length ≤ c5) (hBhb : hb.length ≤ 1000000) (hIcs : In .u8 cs) (hCcs : cs.length ≤ c6) (hBcs : cs.length ≤ 1000000) (hb12 : hb.length = 12) (hd : rs.length ≤ d) (hB : 0 < rs.length → Option.isSome B = true) (hro : RowsOK .u8 rs) (hpc : Pcs rs X xs n) (hcat : (cat rs).length ≤ 1000000) (hrl : rs.length ≤ 999999) (hk : ks.length = 32) (hLn : L.length = nb) (hLl : nb ≤ 1000000) (hLc : nb ≤ bc) (hLA : 0 < nb → Option.isSome BA = true) (hl_rs : rs.length = l_rs) :
    CallsS Try.prog 28 [.slice B l_rs d, .func (.func 30) #[.agg #[.slice A5 hb.length c5, .slice A6 cs.length c6]] #[], .func (.func 34) #[] #[pt p1, pt p2, pt p3]] [blk p1 41 [.iface 57 (pt bk)], blk p2 24 [.slice A ks.length c], blk p3 64 [.slice A5 hb.length c5, .slice A6 cs.length c6], blk bk 61 [mv, .slice BA nb bc], row 164 4 (.slice BA nb bc) nb (bxV L), rws .u8 (bxR L), vw B (rowsV rs), vws (rowsL .u8 rs), vw A (nums .u8 ks), vw A5 (nums .u8 hb), vw A6 (nums .u8 cs)] (fun r D => ∃ (A9 : Option Addr) (c9 : Nat) (zs : List Int) (e : Int), r = .tuple #[.slice A9 zs.length c9, .int .i64 e] ∧ D = [row 5 1 (.slice A9 zs.length c9) zs.length (nums .u8 zs), blk p1 41 [.iface 57 (pt bk)], blk p2 24 [.slice A ks.length c], blk p3 64 [.slice A5 hb.length c5, .slice A6 cs.length c6], blk bk 61 [mv, .slice BA nb bc], row 164 4 (.slice BA nb bc) nb (bxV L), rws .u8 (bxR L)] ∧ (e = (opAll (fOpen (bxM L) ks hb cs xs n) rs.length).1) ∧ (zs = (opAll (fOpen (bxM L) ks hb cs xs n) rs.length).2) ∧ (In .u8 zs) ∧ (zs.length ≤ c9) ∧ (0 < zs.length → Option.isSome A9 = true)) := by
  subst hl_rs
  refine CallsS.enter hU Try.f28 _ [.tmp 6, .tmp 7] 42 Try.func28 rfl (by decide) rfl rfl (by kernel_rfl) fun w0 W => ?_
  refine RunC.know (p := 0 < ks.length → Option.isSome A = true) (fun _ _ w hs => vw_some hs 8 rfl (by (simp [nums_length]; done))) (fun hA1 => ?_)
  refine RunC.know (p := 0 < hb.length → Option.isSome A5 = true) (fun _ _ w hs => vw_some hs 9 rfl (by (simp [nums_length]; done))) (fun hA2 => ?_)
  refine RunC.know (p := 0 < cs.length → Option.isSome A6 = true) (fun _ _ w hs => vw_some hs 10 rfl (by (simp [nums_length]; done))) (fun hA3 => ?_)
  refine RunC.know (p := 0 < rs.length → Option.isSome B = true) (fun _ _ w hs => vw_some hs 6 rfl (by simp [rowsV_len])) (fun hA4 => ?_)
  refine RunC.sr ?_
  refine RunR.sl hU [] 2 2 [0, 1, 2, 6, 7] [(0, .slice B rs.length d), (1, .func (.func 30) #[.agg #[.slice A5 hb.length c5, .slice A6 cs.length c6]] #[]), (2, .func (.func 34) #[] #[pt p1, pt p2, pt p3]), (6, .slice none 0 0), (7, .int .i64 0)] 2 ?_
  refine RunR.nx ?_
  refine RunR.sl hU [] 1 1 [0, 1, 2, 6, 7, 8] [(0, .slice B rs.length d), (1, .func (.func 30) #[.agg #[.slice A5 hb.length c5, .slice A6 cs.length c6]] #[]), (2, .func (.func 34) #[] #[pt p1, pt p2, pt p3]), (6, .slice none 0 0), (7, .int .i64 0), (8, .slice none 0 0)] 1 ?_
  refine RunR.nn ?_
  refine RunC.seq ?_
  refine RunC.sr ?_
  refine RunR.sl hU [] 3 3 [0, 1, 2, 6, 7, 8, 13, 14, 15] [(0, .slice B rs.length d), (1, .func (.func 30) #[.agg #[.slice A5 hb.length c5, .slice A6 cs.length c6]] #[]), (2, .func (.func 34) #[] #[pt p1, pt p2, pt p3]), (6, .slice none 0 0), (7, .int .i64 0), (8, .slice none 0 0), (13, .slice B rs.length d), (14, .int .i64 ((rs.length : Nat) : Int)), (15, .int .i64 0)] 3 ?_
  refine RunR.nn ?_
  refine RunC.block ?_
  refine RunC.turn ([row 5 1 (.slice none 0 0) 0 (nums .u8 ([] : List Int)), blk p1 41 [.iface 57 (pt bk)], blk p2 24 [.slice A ks.length c], blk p3 64 [.slice A5 hb.length c5, .slice A6 cs.length c6], blk bk 61 [mv, .slice BA nb bc], row 164 4 (.slice BA nb bc) nb (bxV L), rws .u8 (bxR L), vw B (rowsV rs), vws (rowsL .u8 rs), vw A (nums .u8 ks), vw A5 (nums .u8 hb), vw A6 (nums .u8 cs)]) (fun _ _ w hs => hs.nil_row 5 1) ?_
  refine RunC.env [0, 1, 2, 8, 13, 14, 15] [(0, .slice B rs.length d), (1, .func (.func 30) #[.agg #[.slice A5 hb.length c5, .slice A6 cs.length c6]] #[]), (2, .func (.func 34) #[] #[pt p1, pt p2, pt p3]), (8, .slice none 0 0), (13, .slice B rs.length d), (14, .int .i64 ((rs.length : Nat) : Int)), (15, .int .i64 0)] (by kernel_rfl) ?_
  refine RunC.only [0, 0, 0, 0, 0, 0, 0, 0, 0, 0, 0, 0] [row 5 1 (.slice none 0 0) 0 (nums .u8 ([] : List Int)), blk p1 41 [.iface 57 (pt bk)], blk p2 24 [.slice A ks.length c], blk p3 64 [.slice A5 hb.length c5, .slice A6 cs.length c6], blk bk 61 [mv, .slice BA nb bc], row 164 4 (.slice BA nb bc) nb (bxV L), rws .u8 (bxR L), vw B (rowsV rs), vws (rowsL .u8 rs), vw A (nums .u8 ks), vw A5 (nums .u8 hb), vw A6 (nums .u8 cs)] (by kernel_rfl) ?_
  refine RunC.loop (σ := Nat) (fun n_ t_ D_ => ∃ (i : Int) (os : List Int) (A4 : Option Addr) (c4 : Nat), (0 ≤ i) ∧ (i ≤ rs.length) ∧ (opAll (fOpen (bxM L) ks hb cs xs n) i.toNat = (0, os)) ∧ (os.length ≤ (cat (rs.take i.toNat)).length) ∧ (In .u8 os) ∧ (os.length ≤ c4) ∧ (0 < os.length → Option.isSome A4 = true) ∧ n_ = ((rs.length - i).toNat : Nat) ∧ t_ = [(0, .slice B rs.length d), (1, .func (.func 30) #[.agg #[.slice A5 hb.length c5, .slice A6 cs.length c6]] #[]), (2, .func (.func 34) #[] #[pt p1, pt p2, pt p3]), (8, .slice A4 os.length c4), (13, .slice B rs.length d), (14, .int .i64 ((rs.length : Nat) : Int)), (15, .int .i64 i)] ∧ D_ = [row 5 1 (.slice A4 os.length c4) os.length (nums .u8 os), blk p1 41 [.iface 57 (pt bk)], blk p2 24 [.slice A ks.length c], blk p3 64 [.slice A5 hb.length c5, .slice A6 cs.length c6], blk bk 61 [mv, .slice BA nb bc], row 164 4 (.slice BA nb bc) nb (bxV L), rws .u8 (bxR L), vw B (rowsV rs), vws (rowsL .u8 rs), vw A (nums .u8 ks), vw A5 (nums .u8 hb), vw A6 (nums .u8 cs)]) id _ ⟨0, ([] : List Int), none, 0, (by omega), (by omega), (by rfl), (by exact Nat.zero_le _), (by exact In.nil _), (by exact Nat.zero_le _), (by intro h; simp at h), rfl, rfl, rfl⟩ ?_
  rintro n_ _ _ ⟨i, os, A4, c4, hi, hi2, ho, hol, hios, hcos, hAos, rfl, rfl, rfl⟩
  refine RunC.sr ?_
  refine RunR.sl hU [] 1 1 [0, 1, 2, 8, 13, 14, 15, 16] [(0, .slice B rs.length d), (1, .func (.func 30) #[.agg #[.slice A5 hb.length c5, .slice A6 cs.length c6]] #[]), (2, .func (.func 34) #[] #[pt p1, pt p2, pt p3]), (8, .slice A4 os.length c4), (13, .slice B rs.length d), (14, .int .i64 ((rs.length : Nat) : Int)), (15, .int .i64 i), (16, .bool (decide (i < ((rs.length : Nat) : Int))))] 1 ?_
  refine RunR.nn ?_
  refine RunC.seq ?_
  refine RunC.condp (i < ((rs.length : Nat) : Int)) (by kernel_rfl) (fun h5 => ?_) (fun h5 => ?_)
  · skip
    refine RunC.ks ?_
    refine RunC.seq ?_
    refine RunC.block ?_
    refine RunC.sr ?_
    refine RunR.sil hU [] 2 2 [0, 1, 2, 8, 13, 14, 15, 17, 18] [(0, .slice B rs.length d), (1, .func (.func 30) #[.agg #[.slice A5 hb.length c5, .slice A6 cs.length c6]] #[]), (2, .func (.func 34) #[] #[pt p1, pt p2, pt p3]), (8, .slice A4 os.length c4), (13, .slice B rs.length d), (14, .int .i64 ((rs.length : Nat) : Int)), (15, .int .i64 i), (17, .int .i64 i), (18, .pointer (elemAt B i 1))] ((True) ∧ ((0 ≤ i ∧ i < ((rs.length : Nat) : Int)) ∧ Option.isSome B = true) ∧ True) rfl (by kernel_rfl) ⟨trivial, ⟨by omega, hA4 (by omega)⟩, trivial⟩ ?_
    obtain ⟨Ae6, ce7, xe8, hg9, hr10, hc11, hl12⟩ := row_at (by assumption : RowsOK .u8 rs) (i := (i).toNat) (by omega)
    have hcl13 := cat_at hg9
    refine RunR.st (some 19) (.load 24 (.tmp 18)) (Step.load_vw hU 7 B i 1 (rowsV rs) (.slice Ae6 xe8.length ce7) (by kernel_rfl) (by kernel_rfl) (loadv_row (by kernel_rfl) hg9 (Nat.mul_one _)) (by kernel_rfl) (by rw [rowsV_len]; omega) ?_)
    refine RunR.sl hU [] 2 5 [0, 1, 2, 8, 9, 10, 13, 14, 15] [(0, .slice B rs.length d), (1, .func (.func 30) #[.agg #[.slice A5 hb.length c5, .slice A6 cs.length c6]] #[]), (2, .func (.func 34) #[] #[pt p1, pt p2, pt p3]), (8, .slice A4 os.length c4), (9, .int .i64 i), (10, .slice Ae6 xe8.length ce7), (13, .slice B rs.length d), (14, .int .i64 ((rs.length : Nat) : Int)), (15, .int .i64 i)] 2 ?_
    refine RunR.nx ?_
    refine RunR.sil hU [6] 8 8 [0, 1, 2, 8, 10, 13, 14, 15, 21, 22, 23, 28] [(0, .slice B rs.length d), (1, .func (.func 30) #[.agg #[.slice A5 hb.length c5, .slice A6 cs.length c6]] #[]), (2, .func (.func 34) #[] #[pt p1, pt p2, pt p3]), (8, .slice A4 os.length c4), (10, .slice Ae6 xe8.length ce7), (13, .slice B rs.length d), (14, .int .i64 ((rs.length : Nat) : Int)), (15, .int .i64 i), (21, .func (.func 34) #[] #[pt p1, pt p2, pt p3]), (22, .func (.func 30) #[.agg #[.slice A5 hb.length c5, .slice A6 cs.length c6]] #[]), (23, .int .i64 i), (28, .bool (decide (i = (((rs.length : Nat) : Int) - 1))))] ((True) ∧ (True) ∧ (True) ∧ (True) ∧ (True) ∧ (True) ∧ (-9223372036854775808 ≤ (((rs.length : Nat) : Int) - 1) ∧ (((rs.length : Nat) : Int) - 1) < 9223372036854775808) ∧ (True) ∧ True) rfl (by kernel_rfl) ⟨trivial, trivial, trivial, trivial, trivial, trivial, (by omega), trivial, trivial⟩ ?_
    refine RunR.st (some 29) (.call { callee := .value (.tmp 22), args := #[.tmp 23, .tmp 28], argTypes := #[3, 4] }) (Step.cl 30 [.agg #[.slice A5 hb.length c5, .slice A6 cs.length c6], .int .i64 i, .bool (decide (i = (((rs.length : Nat) : Int) - 1)))] [] [vw A5 (nums .u8 hb)] [row 5 1 (.slice A4 os.length c4) os.length (nums .u8 os), blk p1 41 [.iface 57 (pt bk)], blk p2 24 [.slice A ks.length c], blk p3 64 [.slice A5 hb.length c5, .slice A6 cs.length c6], blk bk 61 [mv, .slice BA nb bc], row 164 4 (.slice BA nb bc) nb (bxV L), rws .u8 (bxR L), vw B (rowsV rs), vws (rowsL .u8 rs), vw A (nums .u8 ks), vw A5 (nums .u8 hb), vw A6 (nums .u8 cs)] (s_nonce_spec A5 c5 hb A6 c6 cs.length i (decide (i = (((rs.length : Nat) : Int) - 1))) hb.length hIhb (by assumption) (by assumption) (by assumption) (by omega) (by rfl)) [] ((Lend.nil _).tells 10 (vw A5 (nums .u8 hb)) A5 (nums .u8 hb) (by kernel_rfl) (tells_vw _ _)) ?_)
    rintro _ _ ⟨A914, c915, zs16, rfl, rfl, hp17, hp18, hp19, hp20⟩
    have hq21 := (congrArg List.length hp17).trans (nonceL_len hb12)
    refine RunR.sl hU [] 1 10 [0, 1, 2, 8, 13, 14, 15, 21, 29, 30] [(0, .slice B rs.length d), (1, .func (.func 30) #[.agg #[.slice A5 hb.length c5, .slice A6 cs.length c6]] #[]), (2, .func (.func 34) #[] #[pt p1, pt p2, pt p3]), (8, .slice A4 os.length c4), (13, .slice B rs.length d), (14, .int .i64 ((rs.length : Nat) : Int)), (15, .int .i64 i), (21, .func (.func 34) #[] #[pt p1, pt p2, pt p3]), (29, .slice A914 zs16.length c915), (30, .slice Ae6 xe8.length ce7)] 1 ?_
    refine RunR.st (some 31) (.call { callee := .value (.tmp 21), args := #[.tmp 29, .tmp 30], argTypes := #[24, 24] }) (Step.cl 34 [.slice A914 zs16.length c915, .slice Ae6 xe8.length ce7, pt p1, pt p2, pt p3] [blk p1 41 [.iface 57 (pt bk)], blk p2 24 [.slice A ks.length c], blk p3 64 [.slice A5 hb.length c5, .slice A6 cs.length c6], blk bk 61 [mv, .slice BA nb bc], row 164 4 (.slice BA nb bc) nb (bxV L), rws .u8 (bxR L)] [vw A (nums .u8 ks), vw A5 (nums .u8 hb), vw A6 (nums .u8 cs), vw A914 (nums .u8 zs16), vw Ae6 (nums .u8 xe8)] [row 5 1 (.slice A914 zs16.length c915) zs16.length (nums .u8 zs16), row 5 1 (.slice A4 os.length c4) os.length (nums .u8 os), vw B (rowsV rs), vws (rowsL .u8 rs), vw A (nums .u8 ks), vw A5 (nums .u8 hb), vw A6 (nums .u8 cs)] (s_doO_spec p1 p2 p3 bk mv BA bc nb L A c ks A5 c5 hb A6 c6 cs A914 c915 zs16 Ae6 ce7 xe8 zs16.length xe8.length (by assumption) (by assumption) (by assumption) (by assumption) (fun h => hLA (by exact h)) hIks (by assumption) (by assumption) hIhb (by assumption) (by assumption) hIcs (by assumption) (by assumption) (by assumption) hp18 (by assumption) (by omega) hr10 (by assumption) (by omega) (by rfl) (by rfl)) [2, 2, 2, 2, 2, 2] ((((((Lend.nil _).tells 3 (vws (rowsL .u8 rs)) Ae6 (nums .u8 xe8) (by kernel_rfl) (tells_rows hg9)).tells 0 (row 5 1 (.slice A914 zs16.length c915) zs16.length (nums .u8 zs16)) A914 (nums .u8 zs16) (by kernel_rfl) (tells_row _ _ _ _ _ _)).tells 6 (vw A6 (nums .u8 cs)) A6 (nums .u8 cs) (by kernel_rfl) (tells_vw _ _)).tells 5 (vw A5 (nums .u8 hb)) A5 (nums .u8 hb) (by kernel_rfl) (tells_vw _ _)).tells 4 (vw A (nums .u8 ks)) A (nums .u8 ks) (by kernel_rfl) (tells_vw _ _)) ?_)
    rintro _ _ ⟨A922, c923, zs24, e25, rfl, rfl, hp26, hp27, hp28, hp29, hp30, hp31⟩
    refine RunR.sl hU [] 5 16 [0, 1, 2, 8, 11, 12, 13, 14, 15] [(0, .slice B rs.length d), (1, .func (.func 30) #[.agg #[.slice A5 hb.length c5, .slice A6 cs.length c6]] #[]), (2, .func (.func 34) #[] #[pt p1, pt p2, pt p3]), (8, .slice A4 os.length c4), (11, .slice A922 zs24.length c923), (12, .int .i64 e25), (13, .slice B rs.length d), (14, .int .i64 ((rs.length : Nat) : Int)), (15, .int .i64 i)] 5 ?_
    refine RunR.nn ?_
    refine RunC.seq ?_
    refine RunC.sr ?_
    refine RunR.sl hU [] 2 2 [0, 1, 2, 8, 11, 12, 13, 14, 15, 35] [(0, .slice B rs.length d), (1, .func (.func 30) #[.agg #[.slice A5 hb.length c5, .slice A6 cs.length c6]] #[]), (2, .func (.func 34) #[] #[pt p1, pt p2, pt p3]), (8, .slice A4 os.length c4), (11, .slice A922 zs24.length c923), (12, .int .i64 e25), (13, .slice B rs.length d), (14, .int .i64 ((rs.length : Nat) : Int)), (15, .int .i64 i), (35, .bool (!decide (e25 = 0)))] 2 ?_
    refine RunR.nn ?_
    refine RunC.condn (e25 = 0) (by kernel_rfl) (fun h32 => ?_) (fun h32 => ?_)
    · skip
      refine RunC.sr ?_
      refine RunR.sl hU [] 3 3 [0, 1, 2, 6, 7, 8, 11, 13, 14, 15] [(0, .slice B rs.length d), (1, .func (.func 30) #[.agg #[.slice A5 hb.length c5, .slice A6 cs.length c6]] #[]), (2, .func (.func 34) #[] #[pt p1, pt p2, pt p3]), (6, .slice none 0 0), (7, .int .i64 e25), (8, .slice A4 os.length c4), (11, .slice A922 zs24.length c923), (13, .slice B rs.length d), (14, .int .i64 ((rs.length : Nat) : Int)), (15, .int .i64 i)] 3 ?_
      refine RunR.nn ?_
      refine RunC.ret ?_
      refine kseq_r ?_
      refine kblock_r ?_
      refine kseq_r ?_
      refine kloop_r ?_
      refine kblock_r ?_
      refine kseq_r ?_
      refine kret_rt ([row 5 1 (.slice none 0 0) 0 (nums .u8 ([] : List Int)), row 5 1 (.slice A922 zs24.length c923) zs24.length (nums .u8 zs24), blk p1 41 [.iface 57 (pt bk)], blk p2 24 [.slice A ks.length c], blk p3 64 [.slice A5 hb.length c5, .slice A6 cs.length c6], blk bk 61 [mv, .slice BA nb bc], row 164 4 (.slice BA nb bc) nb (bxV L), rws .u8 (bxR L), row 5 1 (.slice A914 zs16.length c915) zs16.length (nums .u8 zs16), row 5 1 (.slice A4 os.length c4) os.length (nums .u8 os), vw B (rowsV rs), vws (rowsL .u8 rs), vw A (nums .u8 ks), vw A5 (nums .u8 hb), vw A6 (nums .u8 cs)]) (fun w0 W w hs => (hs).nil_row 5 1) [.slice none 0 0, .int .i64 e25] [0, 1, 1, 1, 1, 1, 1] [row 5 1 (.slice none 0 0) 0 (nums .u8 ([] : List Int)), blk p1 41 [.iface 57 (pt bk)], blk p2 24 [.slice A ks.length c], blk p3 64 [.slice A5 hb.length c5, .slice A6 cs.length c6], blk bk 61 [mv, .slice BA nb bc], row 164 4 (.slice BA nb bc) nb (bxV L), rws .u8 (bxR L)] ⟨rfl, rfl, trivial⟩ (by kernel_rfl) rfl ⟨none, 0, ([] : List Int), e25, rfl, rfl, (by have h_ := (fOpen_is (L := bxM L) (ks := ks) (ctx := cs) hi hpc (by assumption) hp17); have h2_ := Eq.trans hp26 (congrArg Prod.fst h_); rw [opAll_stop ho (by rw [← h2_]; assumption) (show i.toNat < rs.length by omega)]; exact h2_), (by have h_ := (fOpen_is (L := bxM L) (ks := ks) (ctx := cs) hi hpc (by assumption) hp17); have h2_ := Eq.trans hp26 (congrArg Prod.fst h_); rw [opAll_stop ho (by rw [← h2_]; assumption) (show i.toNat < rs.length by omega)]; done), (by exact In.nil _), (by exact Nat.le_refl _), (by intro h; simp at h)⟩
    · skip
      refine RunC.ks ?_
      refine RunC.region ?_
      refine RunR.sl hU [] 2 2 [0, 1, 2, 8, 13, 14, 15, 37, 38] [(0, .slice B rs.length d), (1, .func (.func 30) #[.agg #[.slice A5 hb.length c5, .slice A6 cs.length c6]] #[]), (2, .func (.func 34) #[] #[pt p1, pt p2, pt p3]), (8, .slice A4 os.length c4), (13, .slice B rs.length d), (14, .int .i64 ((rs.length : Nat) : Int)), (15, .int .i64 i), (37, .slice A4 os.length c4), (38, .slice A922 zs24.length c923)] 2 ?_
      refine RunR.st (some 39) (.call { callee := .builtin .append, args := #[.tmp 37, .tmp 38], argTypes := #[24, 24] }) (Step.append_nums hU 5 1 (.int .u8 0) .u8 8 0 A4 os.length c4 os A922 zs24.length c923 (row 5 1 (.slice A922 zs24.length c923) zs24.length (nums .u8 zs24)) zs24 rfl rfl rfl (by kernel_rfl) (by kernel_rfl) (by kernel_rfl) (by kernel_rfl) (tells_row _ _ _ _ _ _) (by rfl) (by rfl) (by omega) (by omega) (by kernel_rfl) (fun Aq33 cq34 hc35 hA36 => ?_))
      have hl37 : (os ++ zs24).length = os.length + zs24.length := List.length_append
      refine RunR.sl hU [] 1 4 [0, 1, 2, 8, 13, 14, 15] [(0, .slice B rs.length d), (1, .func (.func 30) #[.agg #[.slice A5 hb.length c5, .slice A6 cs.length c6]] #[]), (2, .func (.func 34) #[] #[pt p1, pt p2, pt p3]), (8, .slice Aq33 ((os ++ zs24).length) cq34), (13, .slice B rs.length d), (14, .int .i64 ((rs.length : Nat) : Int)), (15, .int .i64 i)] 1 ?_
      refine RunR.dn ?_
      refine kblock_n ?_
      refine kseq_n ?_
      refine RunC.region ?_
      refine RunR.sil hU [0] 2 2 [0, 1, 2, 8, 13, 14, 15] [(0, .slice B rs.length d), (1, .func (.func 30) #[.agg #[.slice A5 hb.length c5, .slice A6 cs.length c6]] #[]), (2, .func (.func 34) #[] #[pt p1, pt p2, pt p3]), (8, .slice Aq33 ((os ++ zs24).length) cq34), (13, .slice B rs.length d), (14, .int .i64 ((rs.length : Nat) : Int)), (15, .int .i64 (i + 1))] ((-9223372036854775808 ≤ (i + 1) ∧ (i + 1) < 9223372036854775808) ∧ (True) ∧ True) rfl (by kernel_rfl) ⟨(by omega), trivial, trivial⟩ ?_
      refine RunR.dn ?_
      refine kloop_n _ [0, 1, 2, 8, 13, 14, 15] [0, 1, 1, 1, 1, 1, 1, 2, 2, 2, 2, 2] [(0, .slice B rs.length d), (1, .func (.func 30) #[.agg #[.slice A5 hb.length c5, .slice A6 cs.length c6]] #[]), (2, .func (.func 34) #[] #[pt p1, pt p2, pt p3]), (8, .slice Aq33 ((os ++ zs24).length) cq34), (13, .slice B rs.length d), (14, .int .i64 ((rs.length : Nat) : Int)), (15, .int .i64 (i + 1))] [row 5 1 (.slice Aq33 ((os ++ zs24).length) cq34) ((os ++ zs24).length) (nums .u8 (os ++ zs24)), blk p1 41 [.iface 57 (pt bk)], blk p2 24 [.slice A ks.length c], blk p3 64 [.slice A5 hb.length c5, .slice A6 cs.length c6], blk bk 61 [mv, .slice BA nb bc], row 164 4 (.slice BA nb bc) nb (bxV L), rws .u8 (bxR L), vw B (rowsV rs), vws (rowsL .u8 rs), vw A (nums .u8 ks), vw A5 (nums .u8 hb), vw A6 (nums .u8 cs)] (by kernel_rfl) (by kernel_rfl) ?_ ⟨(i + 1), (os ++ zs24), Aq33, cq34, (by omega), (by assumption), (by rw [show (i + 1).toNat = i.toNat + 1 by omega]; have h_ := (fOpen_is (L := bxM L) (ks := ks) (ctx := cs) hi hpc (by assumption) hp17); exact opAll_step ho (Eq.trans hp26 (congrArg Prod.fst h_)) (Eq.trans hp27 (congrArg Prod.snd h_)) (by assumption)), (by rw [show (i + 1).toNat = i.toNat + 1 by omega, List.length_append]; omega), (by (repeat first | assumption | with_reducible apply In.append)), (by assumption), (fun h => hA36 (by exact h)), rfl, (by rfl), (by rfl)⟩
      show ((rs.length - (i + 1)).toNat : Nat) < ((rs.length - i).toNat : Nat)
      omega
  · skip
    refine RunC.exit ?_
    refine kseq_e ?_
    refine kloop_e ?_
    refine kblock_e ?_
    refine kseq_n ?_
    refine RunC.sr ?_
    refine RunR.sl hU [] 3 3 [6, 7] [(6, .slice A4 os.length c4), (7, .int .i64 0)] 3 ?_
    refine RunR.nn ?_
    refine RunC.ret ?_
    refine kret_r [.slice A4 os.length c4, .int .i64 0] [0, 0, 0, 0, 0, 0, 0] [row 5 1 (.slice A4 os.length c4) os.length (nums .u8 os), blk p1 41 [.iface 57 (pt bk)], blk p2 24 [.slice A ks.length c], blk p3 64 [.slice A5 hb.length c5, .slice A6 cs.length c6], blk bk 61 [mv, .slice BA nb bc], row 164 4 (.slice BA nb bc) nb (bxV L), rws .u8 (bxR L)] ⟨rfl, rfl, trivial⟩ (by kernel_rfl) rfl ⟨A4, c4, os, 0, rfl, rfl, (by rw [show rs.length = i.toNat by omega, ho]), (by rw [show rs.length = i.toNat by omega, ho]), hios, (by assumption), (fun h => hAos (by exact h))⟩
end Go.Proofs.Ytkehpipialmneaa.S7
