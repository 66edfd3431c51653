/- What these functions compute: a contract for each, walked through its code. -/
import Derived.Test.YtkehpipialmneaaSLzn
import Derived.Test.YtkehpipialmneaaBPure
import Derived.Test.YtkehpipialmneaaProg
import Derived.Test.YtkehpipialmneaaX1
import Derived.Test.YtkehpipialmneaaX2
import Derived.Test.YtkehpipialmneaaX3
import Derived.Test.YtkehpipialmneaaX4
import Derived.Test.YtkehpipialmneaaX5
import Derived.Test.YtkehpipialmneaaX6
import Derived.Test.YtkehpipialmneaaX7
import Derived.Test.YtkehpipialmneaaX8
import Derived.Test.YtkehpipialmneaaX9
import Derived.Test.YtkehpipialmneaaZ1
import Derived.Test.YtkehpipialmneaaZ2
import Derived.Test.YtkehpipialmneaaS1
import Derived.Test.YtkehpipialmneaaS2
import Derived.Test.YtkehpipialmneaaS3
import Derived.Test.YtkehpipialmneaaS4
import Derived.Test.YtkehpipialmneaaS5
import Derived.Test.YtkehpipialmneaaS6
import Derived.Test.YtkehpipialmneaaS7
namespace Go.Proofs.Ytkehpipialmneaa.S8
open Go Go.Proofs.Ytkehpipialmneaa.SL Go.Proofs.Ytkehpipialmneaa.SL.W Go.Proofs.Ytkehpipialmneaa.SL.C Go.Proofs.Ytkehpipialmneaa.SL.H Go.Proofs.Ytkehpipialmneaa.SL.M Go.Proofs.Ytkehpipialmneaa.SL.Y Go.Proofs.Ytkehpipialmneaa.SL.A Go.Proofs.Ytkehpipialmneaa.SL.B Go.Proofs.Ytkehpipialmneaa.X1 Go.Proofs.Ytkehpipialmneaa.X2 Go.Proofs.Ytkehpipialmneaa.X3 Go.Proofs.Ytkehpipialmneaa.X4 Go.Proofs.Ytkehpipialmneaa.X5 Go.Proofs.Ytkehpipialmneaa.X6 Go.Proofs.Ytkehpipialmneaa.X7 Go.Proofs.Ytkehpipialmneaa.X8 Go.Proofs.Ytkehpipialmneaa.X9 Go.Proofs.Ytkehpipialmneaa.Z1 Go.Proofs.Ytkehpipialmneaa.Z2 Go.Proofs.Ytkehpipialmneaa.S1 Go.Proofs.Ytkehpipialmneaa.S2 Go.Proofs.Ytkehpipialmneaa.S3 Go.Proofs.Ytkehpipialmneaa.S4 Go.Proofs.Ytkehpipialmneaa.S5 Go.Proofs.Ytkehpipialmneaa.S6 Go.Proofs.Ytkehpipialmneaa.S7
set_option linter.unusedVariables false
set_option linter.unusedSimpArgs false
set_option maxRecDepth 100000
set_option maxHeartbeats 40000000
def U : Tab where
  und := [(3, .int .i64), (5, .int .u8), (24, .slice 5), (28, .int .i64), (40, .interface #[("Open", 30), ("Seal", 30), ("Sum", 82)]), (41, .interface #[("Open", 30), ("Seal", 30), ("Sum", 82)]), (63, .struct #[{ name := "bytes", type := 24, offset := 0, embedded := false, tag := "", pkgPath := "orlop/seal", byteOffset := 0 }, { name := "context", type := 24, offset := 1, embedded := false, tag := "", pkgPath := "orlop/seal", byteOffset := 24 }]), (64, .struct #[{ name := "bytes", type := 24, offset := 0, embedded := false, tag := "", pkgPath := "orlop/seal", byteOffset := 0 }, { name := "context", type := 24, offset := 1, embedded := false, tag := "", pkgPath := "orlop/seal", byteOffset := 24 }]), (67, .slice 24)]
  fld := [((63, 0), (0, 24)), ((63, 1), (1, 24)), ((64, 0), (0, 24)), ((64, 1), (1, 24))]
  sz := [(3, 1), (5, 1), (24, 1), (28, 1), (40, 1), (41, 1), (63, 2), (64, 2), (67, 1)]
  ti := [(3, (1, 8, .int .i64 0)), (5, (1, 1, .int .u8 0)), (24, (1, 24, .slice none 0 0)), (28, (1, 8, .int .i64 0)), (40, (1, 16, .nilIface)), (41, (1, 16, .nilIface)), (63, (2, 48, .agg #[.slice none 0 0, .slice none 0 0])), (64, (2, 48, .agg #[.slice none 0 0, .slice none 0 0])), (67, (1, 24, .slice none 0 0))]
  bld := [(63, [(0, 1), (1, 1)]), (64, [(0, 1), (1, 1)])]

theorem hU : U.OK Try.prog where
  und := by
    intro p hp
    simp only [U, List.mem_cons, List.not_mem_nil, or_false] at hp
    rcases hp with rfl | rfl | rfl | rfl | rfl | rfl | rfl | rfl | rfl
    · exact Try.underlying3
    · exact Try.underlying5
    · exact Try.underlying24
    · exact Try.underlying28
    · exact Try.underlying40
    · exact Try.underlying41
    · exact Try.underlying63
    · exact Try.underlying64
    · exact Try.underlying67
  fld := by
    intro p hp
    simp only [U, List.mem_cons, List.not_mem_nil, or_false] at hp
    rcases hp with rfl | rfl | rfl | rfl
    · exact ⟨_, _, Try.underlying63, rfl, rfl, rfl, Try.prog.types[24]!, by kernel_rfl, by decide +kernel⟩
    · exact ⟨_, _, Try.underlying63, rfl, rfl, rfl, Try.prog.types[24]!, by kernel_rfl, by decide +kernel⟩
    · exact ⟨_, _, Try.underlying64, rfl, rfl, rfl, Try.prog.types[24]!, by kernel_rfl, by decide +kernel⟩
    · exact ⟨_, _, Try.underlying64, rfl, rfl, rfl, Try.prog.types[24]!, by kernel_rfl, by decide +kernel⟩
  sz := by
    intro p hp
    simp only [U, List.mem_cons, List.not_mem_nil, or_false] at hp
    rcases hp with rfl | rfl | rfl | rfl | rfl | rfl | rfl | rfl | rfl
    · exact ⟨Try.prog.types[3]!, by kernel_rfl, by kernel_rfl⟩
    · exact ⟨Try.prog.types[5]!, by kernel_rfl, by kernel_rfl⟩
    · exact ⟨Try.prog.types[24]!, by kernel_rfl, by kernel_rfl⟩
    · exact ⟨Try.prog.types[28]!, by kernel_rfl, by kernel_rfl⟩
    · exact ⟨Try.prog.types[40]!, by kernel_rfl, by kernel_rfl⟩
    · exact ⟨Try.prog.types[41]!, by kernel_rfl, by kernel_rfl⟩
    · exact ⟨Try.prog.types[63]!, by kernel_rfl, by kernel_rfl⟩
    · exact ⟨Try.prog.types[64]!, by kernel_rfl, by kernel_rfl⟩
    · exact ⟨Try.prog.types[67]!, by kernel_rfl, by kernel_rfl⟩
  ti := by
    intro p hp
    simp only [U, List.mem_cons, List.not_mem_nil, or_false] at hp
    rcases hp with rfl | rfl | rfl | rfl | rfl | rfl | rfl | rfl | rfl
    · exact ⟨Try.prog.types[3]!, by kernel_rfl, by kernel_rfl, by kernel_rfl, by kernel_rfl⟩
    · exact ⟨Try.prog.types[5]!, by kernel_rfl, by kernel_rfl, by kernel_rfl, by kernel_rfl⟩
    · exact ⟨Try.prog.types[24]!, by kernel_rfl, by kernel_rfl, by kernel_rfl, by kernel_rfl⟩
    · exact ⟨Try.prog.types[28]!, by kernel_rfl, by kernel_rfl, by kernel_rfl, by kernel_rfl⟩
    · exact ⟨Try.prog.types[40]!, by kernel_rfl, by kernel_rfl, by kernel_rfl, by kernel_rfl⟩
    · exact ⟨Try.prog.types[41]!, by kernel_rfl, by kernel_rfl, by kernel_rfl, by kernel_rfl⟩
    · exact ⟨Try.prog.types[63]!, by kernel_rfl, by kernel_rfl, by kernel_rfl, by kernel_rfl⟩
    · exact ⟨Try.prog.types[64]!, by kernel_rfl, by kernel_rfl, by kernel_rfl, by kernel_rfl⟩
    · exact ⟨Try.prog.types[67]!, by kernel_rfl, by kernel_rfl, by kernel_rfl, by kernel_rfl⟩
  bld := by
    intro p hp
    simp only [U, List.mem_cons, List.not_mem_nil, or_false] at hp
    rcases hp with rfl | rfl
    · exact ⟨_, Try.underlying63, by kernel_rfl⟩
    · exact ⟨_, Try.underlying64, by kernel_rfl⟩
  mixed := by kernel_rfl

theorem s_Seal_spec (bk : Nat) (mv : Value) (BA : Option Addr) (bc : Nat) (L : List Bx) (A : Option Addr) (c : Nat) (ks : List Int) (A2 : Option Addr) (c2 : Nat) (ps : List Int) (A6 : Option Addr) (c6 : Nat) (cs : List Int) (A4 : Option Addr) (c4 : Nat) (xs : List Int) (n : Int) (l_ks : Nat) (l_ps : Nat) (l_cs : Nat) (l_xs : Nat) (hL : RowsOK .u8 (bxR L)) (hIks : In .u8 ks) (hCks : ks.length ≤ c) (hBks : ks.length ≤ 1000000) (hIps : In .u8 ps) (hCps : ps.length ≤ c2) (hBps : ps.length ≤ 1000000) (hIcs : In .u8 cs) (hCcs : cs.length ≤ c6) (hBcs : cs.length ≤ 1000000) (hIxs : In .u8 xs) (hCxs : xs.length ≤ c4) (hBxs : xs.length ≤ 50000) (hn : 1 ≤ n ∧ n ≤ 65536) (hk : ks.length = 32) (hp7 : ps.length = 7) (hL0 : L = []) (hl_ks : ks.length = l_ks) (hl_ps : ps.length = l_ps) (hl_cs : cs.length = l_cs) (hl_xs : xs.length = l_xs) :
    CallsS Try.prog 13 [.iface 57 (pt bk), .slice A l_ks c, .slice A2 l_ps c2, .slice A6 l_cs c6, .slice A4 l_xs c4, .int .i64 n] [blk bk 61 [mv, .slice BA 0 bc], row 164 4 (.slice BA 0 bc) 0 (bxV L), rws .u8 (bxR L), vw A (nums .u8 ks), vw A2 (nums .u8 ps), vw A6 (nums .u8 cs), vw A4 (nums .u8 xs)] (fun r D => ∃ (A9 : Option Addr) (c9 : Nat) (zs : List Int) (BA9 : Option Addr) (bc9 : Nat) (M : List Bx) (nb9 : Nat), r = .tuple #[.slice A9 zs.length c9, .int .i64 0] ∧ D = [row 5 1 (.slice A9 zs.length c9) zs.length (nums .u8 zs), blk bk 61 [mv, .slice BA9 nb9 bc9], row 164 4 (.slice BA9 nb9 bc9) nb9 (bxV M), rws .u8 (bxR M)] ∧ (zs = headL ps n ++ boxesL xs n.toNat (pcL n.toNat xs)) ∧ (zs.length ≤ 12 + xs.length + 16 * (xs.length + 1)) ∧ (In .u8 zs) ∧ (zs.length ≤ c9) ∧ (0 < zs.length → Option.isSome A9 = true) ∧ (bxM M = quads ks (headL ps n) cs xs n.toNat (pcL n.toNat xs)) ∧ (M.length = nb9) ∧ (RowsOK .u8 (bxR M)) ∧ (nb9 ≤ bc9) ∧ (0 < nb9 → Option.isSome BA9 = true) ∧ (nb9 ≤ 50001) ∧ (12 ≤ zs.length)) := by
  subst hl_ks
  subst hl_ps
  subst hl_cs
  subst hl_xs
  refine CallsS.enter hU Try.f13 _ [.tmp 12, .tmp 13] 52 Try.func13 rfl (by decide) rfl rfl (by kernel_rfl) fun w0 W => ?_
  refine RunC.know (p := 0 < ks.length → Option.isSome A = true) (fun _ _ w hs => vw_some hs 3 rfl (by (simp [nums_length]; done))) (fun hA1 => ?_)
  refine RunC.know (p := 0 < ps.length → Option.isSome A2 = true) (fun _ _ w hs => vw_some hs 4 rfl (by (simp [nums_length]; done))) (fun hA2 => ?_)
  refine RunC.know (p := 0 < cs.length → Option.isSome A6 = true) (fun _ _ w hs => vw_some hs 5 rfl (by (simp [nums_length]; done))) (fun hA3 => ?_)
  refine RunC.know (p := 0 < xs.length → Option.isSome A4 = true) (fun _ _ w hs => vw_some hs 6 rfl (by (simp [nums_length]; done))) (fun hA4 => ?_)
  refine RunC.sr ?_
  refine RunR.st (some 6) (.box 41 (.tmp 0)) (Step.box (.iface 57 (pt bk)) (by kernel_rfl) (by kernel_rfl) (fun b5 => ?_))
  refine RunR.st (some 7) (.box 24 (.tmp 1)) (Step.box (.slice A ks.length c) (by kernel_rfl) (by kernel_rfl) (fun b6 => ?_))
  refine RunR.sl hU [] 2 4 [2, 3, 4, 5, 6, 7, 12, 13] [(2, .slice A2 ps.length c2), (3, .slice A6 cs.length c6), (4, .slice A4 xs.length c4), (5, .int .i64 n), (6, pt b5), (7, pt b6), (12, .slice none 0 0), (13, .int .i64 0)] 2 ?_
  refine RunR.nn ?_
  refine RunC.seq ?_
  refine RunC.sr ?_
  refine RunR.st (some 17) (.load 24 (.tmp 7)) (Step.load_blk hU 0 b6 (0) 24 [.slice A ks.length c] (.slice A ks.length c) (by kernel_rfl) (by kernel_rfl) (by kernel_rfl) (by kernel_rfl) ?_)
  refine RunR.sl hU [] 3 4 [2, 3, 4, 5, 6, 7, 12, 13, 20] [(2, .slice A2 ps.length c2), (3, .slice A6 cs.length c6), (4, .slice A4 xs.length c4), (5, .int .i64 n), (6, pt b5), (7, pt b6), (12, .slice none 0 0), (13, .int .i64 0), (20, .bool (!decide (((ks.length : Nat) : Int) = 32)))] 3 ?_
  refine RunR.ev [2, 3, 4, 5, 6, 7, 12, 13, 20] [(2, .slice A2 ps.length c2), (3, .slice A6 cs.length c6), (4, .slice A4 xs.length c4), (5, .int .i64 n), (6, pt b5), (7, pt b6), (12, .slice none 0 0), (13, .int .i64 0), (20, .bool (!decide (((ks.length : Nat) : Int) = 32)))] ?_
  have hk7 : (((ks.length : Nat) : Int) = 32) := by omega
  refine RunR.enveq [(2, .slice A2 ps.length c2), (3, .slice A6 cs.length c6), (4, .slice A4 xs.length c4), (5, .int .i64 n), (6, pt b5), (7, pt b6), (12, .slice none 0 0), (13, .int .i64 0), (20, .bool false)] (by rw [decide_eq_true hk7]; try rfl) ?_
  refine RunR.sl hU [] 5 9 [2, 3, 4, 5, 6, 7, 12, 13, 25] [(2, .slice A2 ps.length c2), (3, .slice A6 cs.length c6), (4, .slice A4 xs.length c4), (5, .int .i64 n), (6, pt b5), (7, pt b6), (12, .slice none 0 0), (13, .int .i64 0), (25, .bool (!decide (((ps.length : Nat) : Int) = 7)))] 5 ?_
  refine RunR.ev [2, 3, 4, 5, 6, 7, 12, 13, 25] [(2, .slice A2 ps.length c2), (3, .slice A6 cs.length c6), (4, .slice A4 xs.length c4), (5, .int .i64 n), (6, pt b5), (7, pt b6), (12, .slice none 0 0), (13, .int .i64 0), (25, .bool (!decide (((ps.length : Nat) : Int) = 7)))] ?_
  have hk8 : (((ps.length : Nat) : Int) = 7) := by omega
  refine RunR.enveq [(2, .slice A2 ps.length c2), (3, .slice A6 cs.length c6), (4, .slice A4 xs.length c4), (5, .int .i64 n), (6, pt b5), (7, pt b6), (12, .slice none 0 0), (13, .int .i64 0), (25, .bool false)] (by rw [decide_eq_true hk8]; try rfl) ?_
  refine RunR.sl hU [] 1 10 [2, 3, 4, 5, 6, 7, 12, 13, 25, 26] [(2, .slice A2 ps.length c2), (3, .slice A6 cs.length c6), (4, .slice A4 xs.length c4), (5, .int .i64 n), (6, pt b5), (7, pt b6), (12, .slice none 0 0), (13, .int .i64 0), (25, .bool false), (26, .int .i64 n)] 1 ?_
  refine RunR.st (some 27) (.call { callee := .value (.func 26), args := #[.tmp 26], argTypes := #[3] }) (Step.cn 26 [.int .i64 n] [] [blk b6 24 [.slice A ks.length c], blk b5 41 [.iface 57 (pt bk)], blk bk 61 [mv, .slice BA 0 bc], row 164 4 (.slice BA 0 bc) 0 (bxV L), rws .u8 (bxR L), vw A (nums .u8 ks), vw A2 (nums .u8 ps), vw A6 (nums .u8 cs), vw A4 (nums .u8 xs)] (s_maySize_spec n (by (refine ⟨?_, ?_⟩ <;> omega))) [] ?_)
  rintro _ _ ⟨rfl, rfl⟩
  refine RunR.sl hU [] 2 13 [2, 3, 4, 5, 6, 7, 12, 13, 29] [(2, .slice A2 ps.length c2), (3, .slice A6 cs.length c6), (4, .slice A4 xs.length c4), (5, .int .i64 n), (6, pt b5), (7, pt b6), (12, .slice none 0 0), (13, .int .i64 0), (29, .bool (!decide (1 ≤ n ∧ n ≤ 65536)))] 2 ?_
  refine RunR.ev [2, 3, 4, 5, 6, 7, 12, 13, 29] [(2, .slice A2 ps.length c2), (3, .slice A6 cs.length c6), (4, .slice A4 xs.length c4), (5, .int .i64 n), (6, pt b5), (7, pt b6), (12, .slice none 0 0), (13, .int .i64 0), (29, .bool (!decide (1 ≤ n ∧ n ≤ 65536)))] ?_
  have hk9 : (1 ≤ n ∧ n ≤ 65536) := by exact hn
  refine RunR.enveq [(2, .slice A2 ps.length c2), (3, .slice A6 cs.length c6), (4, .slice A4 xs.length c4), (5, .int .i64 n), (6, pt b5), (7, pt b6), (12, .slice none 0 0), (13, .int .i64 0), (29, .bool false)] (by rw [decide_eq_true hk9]; try rfl) ?_
  refine RunR.nn ?_
  refine RunC.cond (b := false) (by kernel_rfl) (fun h => by cases h) (fun _ => ?_)
  refine RunC.ksr ?_
  refine RunR.sl hU [] 3 3 [4, 5, 6, 7, 12, 13, 30, 31, 32] [(4, .slice A4 xs.length c4), (5, .int .i64 n), (6, pt b5), (7, pt b6), (12, .slice none 0 0), (13, .int .i64 0), (30, .slice A2 ps.length c2), (31, .slice A6 cs.length c6), (32, .int .i64 n)] 3 ?_
  refine RunR.st (some 33) (.call { callee := .value (.func 27), args := #[.tmp 30, .tmp 31, .tmp 32], argTypes := #[24, 24, 3] }) (Step.cl 27 [.slice A2 ps.length c2, .slice A6 cs.length c6, .int .i64 n] [] [vw A2 (nums .u8 ps)] [blk b6 24 [.slice A ks.length c], blk b5 41 [.iface 57 (pt bk)], blk bk 61 [mv, .slice BA 0 bc], row 164 4 (.slice BA 0 bc) 0 (bxV L), rws .u8 (bxR L), vw A (nums .u8 ks), vw A2 (nums .u8 ps), vw A6 (nums .u8 cs), vw A4 (nums .u8 xs)] (s_newHead_spec A2 c2 ps A6 c6 cs.length n ps.length hIps (by assumption) (by assumption) (by omega) (by assumption) (by rfl)) [] ((Lend.nil _).tells 6 (vw A2 (nums .u8 ps)) A2 (nums .u8 ps) (by kernel_rfl) (tells_vw _ _)) ?_)
  rintro _ _ ⟨A910, c911, zs12, rfl, rfl, hp13, hp14, hp15, hp16, hp17⟩
  refine RunR.st (some 14) (.alloc 64) (Step.al hU 2 48 (.agg #[.slice none 0 0, .slice none 0 0]) (fun b18 => ?_))
  refine RunR.st none (.store 64 (.tmp 14) (.tmp 33)) (Step.store_blk hU 0 b18 0 64 [.slice none 0 0, .slice none 0 0] (.agg #[.slice A910 zs12.length c911, .slice A6 cs.length c6]) (by kernel_rfl) (by kernel_rfl) (by kernel_rfl) 2 rfl [.slice A910 zs12.length c911, .slice A6 cs.length c6] (by kernel_rfl) rfl (by kernel_rfl) (by decide) ?_)
  refine RunR.nn ?_
  refine RunC.seq ?_
  refine RunC.regionU hU 12 [blk b18 64 [.slice A910 zs12.length c911, .slice A6 cs.length c6]] [0] [6, 11] (bm 12 0) (by kernel_rfl) (by kernel_rfl) (by kernel_rfl) ?_
  refine RunU.sl hU 0 (bm 12 1) 35 (.slice A4 xs.length c4) ?_
  refine RunU.sl hU 1 (bm 12 3) 36 (.int .i64 n) ?_
  refine RunU.rd 3 (bm 12 11) 38 (.load 64 (.tmp 14)) (.agg #[.slice A910 zs12.length c911, .slice A6 cs.length c6]) [0] (Reads.load_blk hU 0 b18 (0) 64 [.slice A910 zs12.length c911, .slice A6 cs.length c6] (.agg #[.slice A910 zs12.length c911, .slice A6 cs.length c6]) (by kernel_rfl) (by kernel_rfl) (by kernel_rfl)) ?_
  refine RunU.sl hU 4 (bm 12 27) 39 (.func (.func 30) #[.agg #[.slice A910 zs12.length c911, .slice A6 cs.length c6]] #[]) ?_
  refine RunU.sl hU 5 (bm 12 59) 40 (.func (.func 31) #[] #[pt b5, pt b6, pt b18]) ?_
  refine RunU.on (some 37) (.call { callee := .value (.func 29), args := #[.tmp 35, .tmp 36], argTypes := #[24, 3] }) 2 (bm 12 63) [1] (Step.cl 29 [.slice A4 xs.length c4, .int .i64 n] [] [vw A4 (nums .u8 xs)] [blk b18 64 [.slice A910 zs12.length c911, .slice A6 cs.length c6], row 5 1 (.slice A910 zs12.length c911) zs12.length (nums .u8 zs12), blk b6 24 [.slice A ks.length c], blk b5 41 [.iface 57 (pt bk)], blk bk 61 [mv, .slice BA 0 bc], row 164 4 (.slice BA 0 bc) 0 (bxV L), rws .u8 (bxR L), vw A (nums .u8 ks), vw A2 (nums .u8 ps), vw A6 (nums .u8 cs), vw A4 (nums .u8 xs)] (s_pieces_spec A4 c4 xs n xs.length hIxs (by omega) (by assumption) (by omega) (by omega) (by rfl)) [] ((Lend.nil _).tells 10 (vw A4 (nums .u8 xs)) A4 (nums .u8 xs) (by kernel_rfl) (tells_vw _ _)) ?_)
  rintro _ _ ⟨B19, d20, rs21, rfl, rfl, hp22, hp23, hp24, hp25⟩
  have hq26a := hp22.len; have hq26b := hp22.cat (by omega); have hq26c := congrArg List.length hq26b; have hq26d := pcL_le n.toNat xs
  refine orL ?_
  refine RunU.on (some 41) (.call { callee := .value (.func 28), args := #[.tmp 37, .tmp 39, .tmp 40], argTypes := #[67, 69, 49] }) 6 (bm 12 127) [] (Step.cl 28 [.slice B19 rs21.length d20, .func (.func 30) #[.agg #[.slice A910 zs12.length c911, .slice A6 cs.length c6]] #[], .func (.func 31) #[] #[pt b5, pt b6, pt b18]] [blk b5 41 [.iface 57 (pt bk)], blk b6 24 [.slice A ks.length c], blk b18 64 [.slice A910 zs12.length c911, .slice A6 cs.length c6], blk bk 61 [mv, .slice BA 0 bc], row 164 4 (.slice BA 0 bc) 0 (bxV L), rws .u8 (bxR L)] [vw B19 (rowsV rs21), vws (rowsL .u8 rs21), vw A (nums .u8 ks), vw A910 (nums .u8 zs12), vw A6 (nums .u8 cs)] [row 24 1 (.slice B19 rs21.length d20) rs21.length (rowsV rs21), row 5 1 (.slice A910 zs12.length c911) zs12.length (nums .u8 zs12), vw A (nums .u8 ks), vw A2 (nums .u8 ps), vw A6 (nums .u8 cs), vw A4 (nums .u8 xs)] (s_eachS_spec b5 b6 b18 bk mv BA bc L A c ks A910 c911 zs12 A6 c6 cs B19 d20 rs21 A4 xs n.toNat rs21.length (by assumption) hIks (by assumption) (by assumption) hp14 (by assumption) (by omega) hIcs (by assumption) (by assumption) (by assumption) (by assumption) (fun h => hp24 (by exact h)) (by assumption) (by assumption) (by omega) (by omega) (by assumption) (by assumption) (by rfl)) [4, 3, 1, 2, 2, 2] ((((((Lend.nil _).tells 4 (vw A6 (nums .u8 cs)) A6 (nums .u8 cs) (by kernel_rfl) (tells_vw _ _)).tells 1 (row 5 1 (.slice A910 zs12.length c911) zs12.length (nums .u8 zs12)) A910 (nums .u8 zs12) (by kernel_rfl) (tells_row _ _ _ _ _ _)).tells 2 (vw A (nums .u8 ks)) A (nums .u8 ks) (by kernel_rfl) (tells_vw _ _)).many 5 (vw A4 (nums .u8 xs)) rs21 (by kernel_rfl) (by rw [show _ = _ from hp22]; exact pcs_tells (tells_vw _ _))).tells 0 (row 24 1 (.slice B19 rs21.length d20) rs21.length (rowsV rs21)) B19 (rowsV rs21) (by kernel_rfl) (tells_row _ _ _ _ _ _)) ?_)
  rintro _ _ ⟨A927, c928, zs29, BA930, bc931, M32, nb933, rfl, rfl, hp34, hp35, hp36, hp37, hp38, hp39, hp40, hp41, hp42, hp43, hp44⟩
  refine orR ?_
  refine RunU.sl hU 7 (bm 12 255) 34 (.tuple #[.slice A927 zs29.length c928, .int .i64 0]) ?_
  refine RunU.sl hU 8 (bm 12 511) 42 (.slice A927 zs29.length c928) ?_
  refine RunU.sl hU 9 (bm 12 1023) 43 (.int .i64 0) ?_
  refine RunU.sl hU 10 (bm 12 2047) 15 (.slice A927 zs29.length c928) ?_
  refine RunU.sl hU 11 (bm 12 4095) 16 (.int .i64 0) ?_
  refine RunU.ev [12, 13, 14, 15, 16] [(12, .slice none 0 0), (13, .int .i64 0), (14, pt b18), (15, .slice A927 zs29.length c928), (16, .int .i64 0)] ?_
  refine RunU.dn ?_
  refine kseq_n ?_
  refine RunC.seq ?_
  refine RunC.sr ?_
  refine RunR.sl hU [] 2 2 [12, 13, 14, 15, 16, 45] [(12, .slice none 0 0), (13, .int .i64 0), (14, pt b18), (15, .slice A927 zs29.length c928), (16, .int .i64 0), (45, .bool false)] 2 ?_
  refine RunR.nn ?_
  refine RunC.cond (b := false) (by kernel_rfl) (fun h => by cases h) (fun _ => ?_)
  refine RunC.ksr ?_
  refine RunR.sl hU [] 1 1 [12, 13, 15, 47] [(12, .slice none 0 0), (13, .int .i64 0), (15, .slice A927 zs29.length c928), (47, pt b18)] 1 ?_
  refine RunR.st (some 48) (.load 24 (.tmp 47)) (Step.load_blk hU 3 b18 (0) 64 [.slice A910 zs12.length c911, .slice A6 cs.length c6] (.slice A910 zs12.length c911) (by kernel_rfl) (by kernel_rfl) (by kernel_rfl) (by kernel_rfl) ?_)
  refine RunR.sl hU [] 1 3 [12, 13, 48, 49] [(12, .slice none 0 0), (13, .int .i64 0), (48, .slice A910 zs12.length c911), (49, .slice A927 zs29.length c928)] 1 ?_
  refine RunR.st (some 50) (.buildSlice 67 2 #[(0, .tmp 48), (1, .tmp 49)]) (Step.lit_rows hU 24 24 (.slice none 0 0) [.slice A910 zs12.length c911, .slice A927 zs29.length c928] rfl rfl (by kernel_rfl) rfl rfl (by kernel_rfl) (fun b45 => ?_))
  refine RunR.st (some 51) (.call { callee := .value (.func 22), args := #[.tmp 50], argTypes := #[67] }) (Step.cl 22 [.slice (some ⟨b45, 0, none⟩) 2 2] [] [vw (some ⟨b45, 0, none⟩) (rowsV ((A910, c911, zs12) :: (A927, c928, zs29) :: [])), vws (rowsL .u8 ((A910, c911, zs12) :: (A927, c928, zs29) :: []))] [row 24 1 (.slice (some ⟨b45, 0, none⟩) 2 2) 2 (rowsV ((A910, c911, zs12) :: (A927, c928, zs29) :: [])), row 5 1 (.slice A927 zs29.length c928) zs29.length (nums .u8 zs29), blk b5 41 [.iface 57 (pt bk)], blk b6 24 [.slice A ks.length c], blk b18 64 [.slice A910 zs12.length c911, .slice A6 cs.length c6], blk bk 61 [mv, .slice BA930 nb933 bc931], row 164 4 (.slice BA930 nb933 bc931) nb933 (bxV M32), rws .u8 (bxR M32), row 24 1 (.slice B19 rs21.length d20) rs21.length (rowsV rs21), row 5 1 (.slice A910 zs12.length c911) zs12.length (nums .u8 zs12), vw A (nums .u8 ks), vw A2 (nums .u8 ps), vw A6 (nums .u8 cs), vw A4 (nums .u8 xs)] (sl_Concat_spec (some ⟨b45, 0, none⟩) 2 ((A910, c911, zs12) :: (A927, c928, zs29) :: []) 2 (RowsOK.cons hp14 (by assumption) (by omega) (RowsOK.cons hp36 (by assumption) (by omega) (RowsOK.nil _))) (by (simp only [List.length_append, List.length_cons, List.length_nil, List.length_set, List.length_replicate, List.length_take, List.length_drop]; omega)) (by simp only [cat_cons, cat_nil, List.length_append, List.length_cons, List.length_nil]; omega) (by rfl)) [] (((((Lend.nil _).rows0 .u8).rows1 1 (row 5 1 (.slice A927 zs29.length c928) zs29.length (nums .u8 zs29)) A927 c928 zs29 (by kernel_rfl) (tells_row _ _ _ _ _ _)).rows1 9 (row 5 1 (.slice A910 zs12.length c911) zs12.length (nums .u8 zs12)) A910 c911 zs12 (by kernel_rfl) (tells_row _ _ _ _ _ _)).tells 0 (row 24 1 (.slice (some ⟨b45, 0, none⟩) 2 2) 2 (rowsV ((A910, c911, zs12) :: (A927, c928, zs29) :: []))) (some ⟨b45, 0, none⟩) (rowsV ((A910, c911, zs12) :: (A927, c928, zs29) :: [])) (by kernel_rfl) (tells_row _ _ _ _ _ _)) ?_)
  rintro _ _ ⟨A946, c947, zs48, rfl, rfl, hp49, hp50, hp51, hp52⟩
  refine RunR.sl hU [] 2 7 [12, 13] [(12, .slice A946 zs48.length c947), (13, .int .i64 0)] 2 ?_
  refine RunR.nn ?_
  refine RunC.ret ?_
  refine kret_r [.slice A946 zs48.length c947, .int .i64 0] [0, 5, 5, 5] [row 5 1 (.slice A946 zs48.length c947) zs48.length (nums .u8 zs48), blk bk 61 [mv, .slice BA930 nb933 bc931], row 164 4 (.slice BA930 nb933 bc931) nb933 (bxV M32), rws .u8 (bxR M32)] ⟨rfl, rfl, trivial⟩ (by kernel_rfl) rfl ⟨A946, c947, zs48, BA930, bc931, M32, nb933, rfl, rfl, (by simp only [hp13, hp34, hp44, hp49, cat_cons, cat_nil, List.append_nil, (hp22).len]), (by have h_ := congrArg List.length hp49; simp only [cat_cons, cat_nil, List.length_append, List.length_nil] at h_; omega), hp50, (by assumption), (fun h => hp52 (by exact h)), (by rw [hp39, hp13, (hp22).len]), (by assumption), (by assumption), (by assumption), (fun h => hp43 (by exact h)), (by omega), (by have h_ := congrArg List.length hp49; simp only [cat_cons, cat_nil, List.length_append, List.length_nil] at h_; omega)⟩
end Go.Proofs.Ytkehpipialmneaa.S8
