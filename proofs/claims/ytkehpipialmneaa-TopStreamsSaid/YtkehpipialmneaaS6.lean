/- What these functions compute: a contract for each, walked through its code. -/
import Derived.Test.YtkehpipialmneaaSLzn
import Derived.Test.YtkehpipialmneaaBPure
import Derived.Test.YtkehpipialmneaaProg
import Derived.Test.YtkehpipialmneaaX1
import Derived.Test.YtkehpipialmneaaX2
import Derived.Test.YtkehpipialmneaaX3
import Derived.Test.YtkehpipialmneaaX4
import Derived.Test.YtkehpipialmneaaX5
import Derived.Test.YtkehpipialmneaaX6
import Derived.Test.YtkehpipialmneaaX7
import Derived.Test.YtkehpipialmneaaX8
import Derived.Test.YtkehpipialmneaaX9
import Derived.Test.YtkehpipialmneaaZ1
import Derived.Test.YtkehpipialmneaaZ2
import Derived.Test.YtkehpipialmneaaS1
import Derived.Test.YtkehpipialmneaaS2
import Derived.Test.YtkehpipialmneaaS3
import Derived.Test.YtkehpipialmneaaS4
import Derived.Test.YtkehpipialmneaaS5
namespace Go.Proofs.Ytkehpipialmneaa.S6
open Go Go.Proofs.Ytkehpipialmneaa.SL Go.Proofs.Ytkehpipialmneaa.SL.W Go.Proofs.Ytkehpipialmneaa.SL.C Go.Proofs.Ytkehpipialmneaa.SL.H Go.Proofs.Ytkehpipialmneaa.SL.M Go.Proofs.Ytkehpipialmneaa.SL.Y Go.Proofs.Ytkehpipialmneaa.SL.A Go.Proofs.Ytkehpipialmneaa.SL.B Go.Proofs.Ytkehpipialmneaa.X1 Go.Proofs.Ytkehpipialmneaa.X2 Go.Proofs.Ytkehpipialmneaa.X3 Go.Proofs.Ytkehpipialmneaa.X4 Go.Proofs.Ytkehpipialmneaa.X5 Go.Proofs.Ytkehpipialmneaa.X6 Go.Proofs.Ytkehpipialmneaa.X7 Go.Proofs.Ytkehpipialmneaa.X8 Go.Proofs.Ytkehpipialmneaa.X9 Go.Proofs.Ytkehpipialmneaa.Z1 Go.Proofs.Ytkehpipialmneaa.Z2 Go.Proofs.Ytkehpipialmneaa.S1 Go.Proofs.Ytkehpipialmneaa.S2 Go.Proofs.Ytkehpipialmneaa.S3 Go.Proofs.Ytkehpipialmneaa.S4 Go.Proofs.Ytkehpipialmneaa.S5
set_option linter.unusedVariables false
set_option linter.unusedSimpArgs false
set_option maxRecDepth 100000
set_option maxHeartbeats 40000000
def U : Tab where
  und := [(5, .int .u8), (24, .slice 5), (40, .interface #[("Open", 30), ("Seal", 30), ("Sum", 82)]), (41, .interface #[("Open", 30), ("Seal", 30), ("Sum", 82)]), (63, .struct #[{ name := "bytes", type := 24, offset := 0, embedded := false, tag := "", pkgPath := "orlop/seal", byteOffset := 0 }, { name := "context", type := 24, offset := 1, embedded := false, tag := "", pkgPath := "orlop/seal", byteOffset := 24 }]), (64, .struct #[{ name := "bytes", type := 24, offset := 0, embedded := false, tag := "", pkgPath := "orlop/seal", byteOffset := 0 }, { name := "context", type := 24, offset := 1, embedded := false, tag := "", pkgPath := "orlop/seal", byteOffset := 24 }])]
  fld := [((63, 0), (0, 24)), ((63, 1), (1, 24)), ((64, 0), (0, 24)), ((64, 1), (1, 24))]
  sz := [(5, 1), (24, 1), (40, 1), (41, 1), (63, 2), (64, 2)]
  ti := [(5, (1, 1, .int .u8 0)), (24, (1, 24, .slice none 0 0)), (40, (1, 16, .nilIface)), (41, (1, 16, .nilIface)), (63, (2, 48, .agg #[.slice none 0 0, .slice none 0 0])), (64, (2, 48, .agg #[.slice none 0 0, .slice none 0 0]))]
  bld := [(63, [(0, 1), (1, 1)]), (64, [(0, 1), (1, 1)])]

theorem hU : U.OK Try.prog where
  und := by
    intro p hp
    simp only [U, List.mem_cons, List.not_mem_nil, or_false] at hp
    rcases hp with rfl | rfl | rfl | rfl | rfl | rfl
    · exact Try.underlying5
    · exact Try.underlying24
    · exact Try.underlying40
    · exact Try.underlying41
    · exact Try.underlying63
    · exact Try.underlying64
  fld := by
    intro p hp
    simp only [U, List.mem_cons, List.not_mem_nil, or_false] at hp
    rcases hp with rfl | rfl | rfl | rfl
    · exact ⟨_, _, Try.underlying63, rfl, rfl, rfl, Try.prog.types[24]!, by kernel_rfl, by decide +kernel⟩
    · exact ⟨_, _, Try.underlying63, rfl, rfl, rfl, Try.prog.types[24]!, by kernel_rfl, by decide +kernel⟩
    · exact ⟨_, _, Try.underlying64, rfl, rfl, rfl, Try.prog.types[24]!, by kernel_rfl, by decide +kernel⟩
    · exact ⟨_, _, Try.underlying64, rfl, rfl, rfl, Try.prog.types[24]!, by kernel_rfl, by decide +kernel⟩
  sz := by
    intro p hp
    simp only [U, List.mem_cons, List.not_mem_nil, or_false] at hp
    rcases hp with rfl | rfl | rfl | rfl | rfl | rfl
    · exact ⟨Try.prog.types[5]!, by kernel_rfl, by kernel_rfl⟩
    · exact ⟨Try.prog.types[24]!, by kernel_rfl, by kernel_rfl⟩
    · exact ⟨Try.prog.types[40]!, by kernel_rfl, by kernel_rfl⟩
    · exact ⟨Try.prog.types[41]!, by kernel_rfl, by kernel_rfl⟩
    · exact ⟨Try.prog.types[63]!, by kernel_rfl, by kernel_rfl⟩
    · exact ⟨Try.prog.types[64]!, by kernel_rfl, by kernel_rfl⟩
  ti := by
    intro p hp
    simp only [U, List.mem_cons, List.not_mem_nil, or_false] at hp
    rcases hp with rfl | rfl | rfl | rfl | rfl | rfl
    · exact ⟨Try.prog.types[5]!, by kernel_rfl, by kernel_rfl, by kernel_rfl, by kernel_rfl⟩
    · exact ⟨Try.prog.types[24]!, by kernel_rfl, by kernel_rfl, by kernel_rfl, by kernel_rfl⟩
    · exact ⟨Try.prog.types[40]!, by kernel_rfl, by kernel_rfl, by kernel_rfl, by kernel_rfl⟩
    · exact ⟨Try.prog.types[41]!, by kernel_rfl, by kernel_rfl, by kernel_rfl, by kernel_rfl⟩
    · exact ⟨Try.prog.types[63]!, by kernel_rfl, by kernel_rfl, by kernel_rfl, by kernel_rfl⟩
    · exact ⟨Try.prog.types[64]!, by kernel_rfl, by kernel_rfl, by kernel_rfl, by kernel_rfl⟩
  bld := by
    intro p hp
    simp only [U, List.mem_cons, List.not_mem_nil, or_false] at hp
    rcases hp with rfl | rfl
    · exact ⟨_, Try.underlying63, by kernel_rfl⟩
    · exact ⟨_, Try.underlying64, by kernel_rfl⟩
  mixed := by kernel_rfl

theorem s_doS_spec (p1 : Nat) (p2 : Nat) (p3 : Nat) (bk : Nat) (mv : Value) (BA : Option Addr) (bc : Nat) (nb : Nat) (L : List Bx) (A : Option Addr) (c : Nat) (ks : List Int) (A5 : Option Addr) (c5 : Nat) (hb : List Int) (A6 : Option Addr) (c6 : Nat) (cs : List Int) (A2 : Option Addr) (c2 : Nat) (ns : List Int) (A4 : Option Addr) (c4 : Nat) (ts : List Int) (l_ns : Nat) (l_ts : Nat) (hL : RowsOK .u8 (bxR L)) (hLn : L.length = nb) (hLl : nb ≤ 1000000) (hLc : nb ≤ bc) (hLA : 0 < nb → Option.isSome BA = true) (hIks : In .u8 ks) (hCks : ks.length ≤ c) (hBks : ks.length ≤ 1000000) (hIhb : In .u8 hb) (hChb : hb.length ≤ c5) (hBhb : hb.length ≤ 1000000) (hIcs : In .u8 cs) (hCcs : cs.length ≤ c6) (hBcs : cs.length ≤ 1000000) (hb12 : hb.length = 12) (hIns : In .u8 ns) (hCns : ns.length ≤ c2) (hBns : ns.length ≤ 1000000) (hIts : In .u8 ts) (hCts : ts.length ≤ c4) (hBts : ts.length ≤ 1000000) (hk : ks.length = 32 ∧ ns.length = 12) (hl_ns : ns.length = l_ns) (hl_ts : ts.length = l_ts) :
    CallsS Try.prog 31 [.slice A2 l_ns c2, .slice A4 l_ts c4, pt p1, pt p2, pt p3] [blk p1 41 [.iface 57 (pt bk)], blk p2 24 [.slice A ks.length c], blk p3 64 [.slice A5 hb.length c5, .slice A6 cs.length c6], blk bk 61 [mv, .slice BA nb bc], row 164 4 (.slice BA nb bc) nb (bxV L), rws .u8 (bxR L), vw A (nums .u8 ks), vw A5 (nums .u8 hb), vw A6 (nums .u8 cs), vw A2 (nums .u8 ns), vw A4 (nums .u8 ts)] (fun r D => ∃ (A9 : Option Addr) (c9 : Nat) (zs : List Int) (BA9 : Option Addr) (bc9 : Nat) (M : List Bx), r = .tuple #[.slice A9 zs.length c9, .int .i64 0] ∧ D = [row 5 1 (.slice A9 zs.length c9) zs.length (nums .u8 zs), blk p1 41 [.iface 57 (pt bk)], blk p2 24 [.slice A ks.length c], blk p3 64 [.slice A5 hb.length c5, .slice A6 cs.length c6], blk bk 61 [mv, .slice BA9 (nb + 1) bc9], row 164 4 (.slice BA9 (nb + 1) bc9) (nb + 1) (bxV M), rws .u8 (bxR M)] ∧ (zs = boxL nb (ts.length + 16)) ∧ (In .u8 zs) ∧ (zs.length ≤ c9) ∧ (0 < zs.length → Option.isSome A9 = true) ∧ (bxM M = bxM L ++ [(ks, ns, hb ++ cs, ts)]) ∧ (M.length = nb + 1) ∧ (RowsOK .u8 (bxR M)) ∧ (nb + 1 ≤ bc9) ∧ (0 < nb + 1 → Option.isSome BA9 = true) ∧ (zs.length = ts.length + 16)) := by
  subst hl_ns
  subst hl_ts
  refine CallsS.enter hU Try.f31 _ [.tmp 7, .tmp 8] 21 Try.func31 rfl (by decide) rfl rfl (by kernel_rfl) fun w0 W => ?_
  refine RunC.know (p := 0 < ks.length → Option.isSome A = true) (fun _ _ w hs => vw_some hs 6 rfl (by (simp [nums_length]; done))) (fun hA1 => ?_)
  refine RunC.know (p := 0 < hb.length → Option.isSome A5 = true) (fun _ _ w hs => vw_some hs 7 rfl (by (simp [nums_length]; done))) (fun hA2 => ?_)
  refine RunC.know (p := 0 < cs.length → Option.isSome A6 = true) (fun _ _ w hs => vw_some hs 8 rfl (by (simp [nums_length]; done))) (fun hA3 => ?_)
  refine RunC.know (p := 0 < ns.length → Option.isSome A2 = true) (fun _ _ w hs => vw_some hs 9 rfl (by (simp [nums_length]; done))) (fun hA4 => ?_)
  refine RunC.know (p := 0 < ts.length → Option.isSome A4 = true) (fun _ _ w hs => vw_some hs 10 rfl (by (simp [nums_length]; done))) (fun hA5 => ?_)
  refine RunC.sr ?_
  refine RunR.sl hU [] 2 2 [0, 1, 2, 3, 4, 7, 8] [(0, .slice A2 ns.length c2), (1, .slice A4 ts.length c4), (2, pt p1), (3, pt p2), (4, pt p3), (7, .slice none 0 0), (8, .int .i64 0)] 2 ?_
  refine RunR.nn ?_
  refine RunC.seq ?_
  refine RunC.regionU hU 14 [blk p1 41 [.iface 57 (pt bk)], blk p2 24 [.slice A ks.length c], blk p3 64 [.slice A5 hb.length c5, .slice A6 cs.length c6]] [0, 1, 2] [9, 12, 13] (bm 14 0) (by kernel_rfl) (by kernel_rfl) (by kernel_rfl) ?_
  refine RunU.rd 0 (bm 14 1) 9 (.load 41 (.tmp 2)) (.iface 57 (pt bk)) [0, 1, 2] (Reads.load_blk hU 0 p1 (0) 41 [.iface 57 (pt bk)] (.iface 57 (pt bk)) (by kernel_rfl) (by kernel_rfl) (by kernel_rfl)) ?_
  refine RunU.rd 1 (bm 14 3) 10 (.load 24 (.tmp 3)) (.slice A ks.length c) [0, 1, 2] (Reads.load_blk hU 1 p2 (0) 24 [.slice A ks.length c] (.slice A ks.length c) (by kernel_rfl) (by kernel_rfl) (by kernel_rfl)) ?_
  refine RunU.sl hU 2 (bm 14 7) 11 (.slice A2 ns.length c2) ?_
  refine RunU.rd 3 (bm 14 15) 12 (.load 64 (.tmp 4)) (.agg #[.slice A5 hb.length c5, .slice A6 cs.length c6]) [0, 1, 2] (Reads.load_blk hU 2 p3 (0) 64 [.slice A5 hb.length c5, .slice A6 cs.length c6] (.agg #[.slice A5 hb.length c5, .slice A6 cs.length c6]) (by kernel_rfl) (by kernel_rfl) (by kernel_rfl)) ?_
  refine RunU.sl hU 5 (bm 14 47) 14 (.slice A4 ts.length c4) ?_
  refine RunU.sl hU 6 (bm 14 111) 15 (.func (.method "Seal") #[.iface 57 (pt bk)] #[]) ?_
  refine RunU.rd 7 (bm 14 239) 16 (.nilCheck (.tmp 15)) (.func (.method "Seal") #[.iface 57 (pt bk)] #[]) [0, 1, 2] (Reads.nilMeth "Seal" 57 (pt bk) #[] (by kernel_rfl) (fun w => by kernel_rfl)) ?_
  refine RunU.sl hU 8 (bm 14 495) 17 (.iface 57 (pt bk)) ?_
  refine RunU.on (some 13) (.call { callee := .value (.func 32), args := #[.tmp 12], argTypes := #[64] }) 4 (bm 14 511) [1, 2, 3] (Step.cl 32 [.agg #[.slice A5 hb.length c5, .slice A6 cs.length c6]] [] [vw A5 (nums .u8 hb), vw A6 (nums .u8 cs)] [blk p1 41 [.iface 57 (pt bk)], blk p2 24 [.slice A ks.length c], blk p3 64 [.slice A5 hb.length c5, .slice A6 cs.length c6], blk bk 61 [mv, .slice BA nb bc], row 164 4 (.slice BA nb bc) nb (bxV L), rws .u8 (bxR L), vw A (nums .u8 ks), vw A5 (nums .u8 hb), vw A6 (nums .u8 cs), vw A2 (nums .u8 ns), vw A4 (nums .u8 ts)] (s_beside_spec A5 c5 hb A6 c6 cs hb.length cs.length hIhb (by assumption) (by assumption) hIcs (by assumption) (by assumption) (by assumption) (by rfl) (by rfl)) [] (((Lend.nil _).tells 8 (vw A6 (nums .u8 cs)) A6 (nums .u8 cs) (by kernel_rfl) (tells_vw _ _)).tells 7 (vw A5 (nums .u8 hb)) A5 (nums .u8 hb) (by kernel_rfl) (tells_vw _ _)) ?_)
  rintro _ _ ⟨A96, c97, zs8, rfl, rfl, hp9, hp10, hp11, hp12⟩
  have hq13 := congrArg List.length hp9; rw [List.length_append] at hq13
  refine orL ?_
  refine RunU.on (some 18) (.call { callee := .invoke (.tmp 17) "Seal", args := #[.tmp 10, .tmp 11, .tmp 13, .tmp 14], argTypes := #[24, 24, 24, 24] }) 9 (bm 14 1023) [] (Step.invoke 118 57 (pt bk) [.slice A ks.length c, .slice A2 ns.length c2, .slice A96 zs8.length c97, .slice A4 ts.length c4] (by kernel_rfl) (fun w => by kernel_rfl) (by kernel_rfl) (by kernel_rfl) [blk bk 61 [mv, .slice BA nb bc], row 164 4 (.slice BA nb bc) nb (bxV L), rws .u8 (bxR L)] [vw A (nums .u8 ks), vw A2 (nums .u8 ns), vw A96 (nums .u8 zs8), vw A4 (nums .u8 ts)] [row 5 1 (.slice A96 zs8.length c97) zs8.length (nums .u8 zs8), blk p1 41 [.iface 57 (pt bk)], blk p2 24 [.slice A ks.length c], blk p3 64 [.slice A5 hb.length c5, .slice A6 cs.length c6], vw A (nums .u8 ks), vw A5 (nums .u8 hb), vw A6 (nums .u8 cs), vw A2 (nums .u8 ns), vw A4 (nums .u8 ts)] (b_Seal_spec bk mv BA bc nb L A c ks A2 c2 ns A96 c97 zs8 A4 c4 ts ks.length ns.length zs8.length ts.length (by assumption) (by assumption) (by assumption) (by assumption) (fun h => hLA (by exact h)) hIks (by assumption) (by omega) hIns (by assumption) (by omega) hp10 (by assumption) (by omega) hIts (by assumption) (by omega) (by assumption) (by rfl) (by rfl) (by rfl) (by rfl)) [4, 4, 4] (by kernel_rfl) (((((Lend.nil _).tells 8 (vw A4 (nums .u8 ts)) A4 (nums .u8 ts) (by kernel_rfl) (tells_vw _ _)).tells 0 (row 5 1 (.slice A96 zs8.length c97) zs8.length (nums .u8 zs8)) A96 (nums .u8 zs8) (by kernel_rfl) (tells_row _ _ _ _ _ _)).tells 7 (vw A2 (nums .u8 ns)) A2 (nums .u8 ns) (by kernel_rfl) (tells_vw _ _)).tells 4 (vw A (nums .u8 ks)) A (nums .u8 ks) (by kernel_rfl) (tells_vw _ _)) ?_)
  rintro _ _ ⟨A914, c915, zs16, BA917, bc918, M19, rfl, rfl, hp20, hp21, hp22, hp23, hp24, hp25, hp26, hp27, hp28, hp29⟩
  refine orR ?_
  refine RunU.sl hU 10 (bm 14 2047) 19 (.slice A914 zs16.length c915) ?_
  refine RunU.sl hU 11 (bm 14 4095) 20 (.int .i64 0) ?_
  refine RunU.sl hU 12 (bm 14 8191) 7 (.slice A914 zs16.length c915) ?_
  refine RunU.sl hU 13 (bm 14 16383) 8 (.int .i64 0) ?_
  refine RunU.ev [7, 8] [(7, .slice A914 zs16.length c915), (8, .int .i64 0)] ?_
  refine RunU.dn ?_
  refine kseq_n ?_
  refine RunC.ret ?_
  refine kret_r [.slice A914 zs16.length c915, .int .i64 0] [0, 4, 4, 4, 0, 0, 0] [row 5 1 (.slice A914 zs16.length c915) zs16.length (nums .u8 zs16), blk p1 41 [.iface 57 (pt bk)], blk p2 24 [.slice A ks.length c], blk p3 64 [.slice A5 hb.length c5, .slice A6 cs.length c6], blk bk 61 [mv, .slice BA917 (nb + 1) bc918], row 164 4 (.slice BA917 (nb + 1) bc918) (nb + 1) (bxV M19), rws .u8 (bxR M19)] ⟨rfl, rfl, trivial⟩ (by kernel_rfl) rfl ⟨A914, c915, zs16, BA917, bc918, M19, rfl, rfl, (by assumption), hp21, (by assumption), (fun h => hp23 (by exact h)), (by rw [hp24, hp9]), (by assumption), (by assumption), (by assumption), (fun h => hp28 (by exact h)), (by assumption)⟩

theorem s_doO_spec (p1 : Nat) (p2 : Nat) (p3 : Nat) (bk : Nat) (mv : Value) (BA : Option Addr) (bc : Nat) (nb : Nat) (L : List Bx) (A : Option Addr) (c : Nat) (ks : List Int) (A5 : Option Addr) (c5 : Nat) (hb : List Int) (A6 : Option Addr) (c6 : Nat) (cs : List Int) (A2 : Option Addr) (c2 : Nat) (ns : List Int) (A4 : Option Addr) (c4 : Nat) (ts : List Int) (l_ns : Nat) (l_ts : Nat) (hL : RowsOK .u8 (bxR L)) (hLn : L.length = nb) (hLl : nb ≤ 1000000) (hLc : nb ≤ bc) (hLA : 0 < nb → Option.isSome BA = true) (hIks : In .u8 ks) (hCks : ks.length ≤ c) (hBks : ks.length ≤ 1000000) (hIhb : In .u8 hb) (hChb : hb.length ≤ c5) (hBhb : hb.length ≤ 1000000) (hIcs : In .u8 cs) (hCcs : cs.length ≤ c6) (hBcs : cs.length ≤ 1000000) (hb12 : hb.length = 12) (hIns : In .u8 ns) (hCns : ns.length ≤ c2) (hBns : ns.length ≤ 1000000) (hIts : In .u8 ts) (hCts : ts.length ≤ c4) (hBts : ts.length ≤ 1000000) (hl_ns : ns.length = l_ns) (hl_ts : ts.length = l_ts) :
    CallsS Try.prog 34 [.slice A2 l_ns c2, .slice A4 l_ts c4, pt p1, pt p2, pt p3] [blk p1 41 [.iface 57 (pt bk)], blk p2 24 [.slice A ks.length c], blk p3 64 [.slice A5 hb.length c5, .slice A6 cs.length c6], blk bk 61 [mv, .slice BA nb bc], row 164 4 (.slice BA nb bc) nb (bxV L), rws .u8 (bxR L), vw A (nums .u8 ks), vw A5 (nums .u8 hb), vw A6 (nums .u8 cs), vw A2 (nums .u8 ns), vw A4 (nums .u8 ts)] (fun r D => ∃ (A9 : Option Addr) (c9 : Nat) (zs : List Int) (e : Int), r = .tuple #[.slice A9 zs.length c9, .int .i64 e] ∧ D = [row 5 1 (.slice A9 zs.length c9) zs.length (nums .u8 zs), blk p1 41 [.iface 57 (pt bk)], blk p2 24 [.slice A ks.length c], blk p3 64 [.slice A5 hb.length c5, .slice A6 cs.length c6], blk bk 61 [mv, .slice BA nb bc], row 164 4 (.slice BA nb bc) nb (bxV L), rws .u8 (bxR L)] ∧ (e = (bopen (bxM L) ks ns (hb ++ cs) ts).1) ∧ (zs = (bopen (bxM L) ks ns (hb ++ cs) ts).2) ∧ (In .u8 zs) ∧ (zs.length ≤ c9) ∧ (0 < zs.length → Option.isSome A9 = true) ∧ (zs.length ≤ ts.length)) := by
  subst hl_ns
  subst hl_ts
  refine CallsS.enter hU Try.f34 _ [.tmp 7, .tmp 8] 21 Try.func34 rfl (by decide) rfl rfl (by kernel_rfl) fun w0 W => ?_
  refine RunC.know (p := 0 < ks.length → Option.isSome A = true) (fun _ _ w hs => vw_some hs 6 rfl (by (simp [nums_length]; done))) (fun hA1 => ?_)
  refine RunC.know (p := 0 < hb.length → Option.isSome A5 = true) (fun _ _ w hs => vw_some hs 7 rfl (by (simp [nums_length]; done))) (fun hA2 => ?_)
  refine RunC.know (p := 0 < cs.length → Option.isSome A6 = true) (fun _ _ w hs => vw_some hs 8 rfl (by (simp [nums_length]; done))) (fun hA3 => ?_)
  refine RunC.know (p := 0 < ns.length → Option.isSome A2 = true) (fun _ _ w hs => vw_some hs 9 rfl (by (simp [nums_length]; done))) (fun hA4 => ?_)
  refine RunC.know (p := 0 < ts.length → Option.isSome A4 = true) (fun _ _ w hs => vw_some hs 10 rfl (by (simp [nums_length]; done))) (fun hA5 => ?_)
  refine RunC.sr ?_
  refine RunR.sl hU [] 2 2 [0, 1, 2, 3, 4, 7, 8] [(0, .slice A2 ns.length c2), (1, .slice A4 ts.length c4), (2, pt p1), (3, pt p2), (4, pt p3), (7, .slice none 0 0), (8, .int .i64 0)] 2 ?_
  refine RunR.nn ?_
  refine RunC.seq ?_
  refine RunC.regionU hU 14 [blk p1 41 [.iface 57 (pt bk)], blk p2 24 [.slice A ks.length c], blk p3 64 [.slice A5 hb.length c5, .slice A6 cs.length c6]] [0, 1, 2] [9, 12, 13] (bm 14 0) (by kernel_rfl) (by kernel_rfl) (by kernel_rfl) ?_
  refine RunU.rd 0 (bm 14 1) 9 (.load 41 (.tmp 2)) (.iface 57 (pt bk)) [0, 1, 2] (Reads.load_blk hU 0 p1 (0) 41 [.iface 57 (pt bk)] (.iface 57 (pt bk)) (by kernel_rfl) (by kernel_rfl) (by kernel_rfl)) ?_
  refine RunU.rd 1 (bm 14 3) 10 (.load 24 (.tmp 3)) (.slice A ks.length c) [0, 1, 2] (Reads.load_blk hU 1 p2 (0) 24 [.slice A ks.length c] (.slice A ks.length c) (by kernel_rfl) (by kernel_rfl) (by kernel_rfl)) ?_
  refine RunU.sl hU 2 (bm 14 7) 11 (.slice A2 ns.length c2) ?_
  refine RunU.rd 3 (bm 14 15) 12 (.load 64 (.tmp 4)) (.agg #[.slice A5 hb.length c5, .slice A6 cs.length c6]) [0, 1, 2] (Reads.load_blk hU 2 p3 (0) 64 [.slice A5 hb.length c5, .slice A6 cs.length c6] (.agg #[.slice A5 hb.length c5, .slice A6 cs.length c6]) (by kernel_rfl) (by kernel_rfl) (by kernel_rfl)) ?_
  refine RunU.sl hU 5 (bm 14 47) 14 (.slice A4 ts.length c4) ?_
  refine RunU.sl hU 6 (bm 14 111) 15 (.func (.method "Open") #[.iface 57 (pt bk)] #[]) ?_
  refine RunU.rd 7 (bm 14 239) 16 (.nilCheck (.tmp 15)) (.func (.method "Open") #[.iface 57 (pt bk)] #[]) [0, 1, 2] (Reads.nilMeth "Open" 57 (pt bk) #[] (by kernel_rfl) (fun w => by kernel_rfl)) ?_
  refine RunU.sl hU 8 (bm 14 495) 17 (.iface 57 (pt bk)) ?_
  refine RunU.on (some 13) (.call { callee := .value (.func 32), args := #[.tmp 12], argTypes := #[64] }) 4 (bm 14 511) [1, 2, 3] (Step.cl 32 [.agg #[.slice A5 hb.length c5, .slice A6 cs.length c6]] [] [vw A5 (nums .u8 hb), vw A6 (nums .u8 cs)] [blk p1 41 [.iface 57 (pt bk)], blk p2 24 [.slice A ks.length c], blk p3 64 [.slice A5 hb.length c5, .slice A6 cs.length c6], blk bk 61 [mv, .slice BA nb bc], row 164 4 (.slice BA nb bc) nb (bxV L), rws .u8 (bxR L), vw A (nums .u8 ks), vw A5 (nums .u8 hb), vw A6 (nums .u8 cs), vw A2 (nums .u8 ns), vw A4 (nums .u8 ts)] (s_beside_spec A5 c5 hb A6 c6 cs hb.length cs.length hIhb (by assumption) (by assumption) hIcs (by assumption) (by assumption) (by assumption) (by rfl) (by rfl)) [] (((Lend.nil _).tells 8 (vw A6 (nums .u8 cs)) A6 (nums .u8 cs) (by kernel_rfl) (tells_vw _ _)).tells 7 (vw A5 (nums .u8 hb)) A5 (nums .u8 hb) (by kernel_rfl) (tells_vw _ _)) ?_)
  rintro _ _ ⟨A96, c97, zs8, rfl, rfl, hp9, hp10, hp11, hp12⟩
  have hq13 := congrArg List.length hp9; rw [List.length_append] at hq13
  refine orL ?_
  refine RunU.on (some 18) (.call { callee := .invoke (.tmp 17) "Open", args := #[.tmp 10, .tmp 11, .tmp 13, .tmp 14], argTypes := #[24, 24, 24, 24] }) 9 (bm 14 1023) [] (Step.invoke 117 57 (pt bk) [.slice A ks.length c, .slice A2 ns.length c2, .slice A96 zs8.length c97, .slice A4 ts.length c4] (by kernel_rfl) (fun w => by kernel_rfl) (by kernel_rfl) (by kernel_rfl) [blk bk 61 [mv, .slice BA nb bc], row 164 4 (.slice BA nb bc) nb (bxV L), rws .u8 (bxR L)] [vw A (nums .u8 ks), vw A2 (nums .u8 ns), vw A96 (nums .u8 zs8), vw A4 (nums .u8 ts)] [row 5 1 (.slice A96 zs8.length c97) zs8.length (nums .u8 zs8), blk p1 41 [.iface 57 (pt bk)], blk p2 24 [.slice A ks.length c], blk p3 64 [.slice A5 hb.length c5, .slice A6 cs.length c6], vw A (nums .u8 ks), vw A5 (nums .u8 hb), vw A6 (nums .u8 cs), vw A2 (nums .u8 ns), vw A4 (nums .u8 ts)] (b_Open_spec bk mv BA bc nb L A c ks A2 c2 ns A96 c97 zs8 A4 c4 ts ks.length ns.length zs8.length ts.length (by assumption) (by assumption) (by assumption) (by assumption) (fun h => hLA (by exact h)) hIks (by assumption) (by omega) hIns (by assumption) (by omega) hp10 (by assumption) (by omega) hIts (by assumption) (by omega) (by rfl) (by rfl) (by rfl) (by rfl)) [4, 4, 4] (by kernel_rfl) (((((Lend.nil _).tells 8 (vw A4 (nums .u8 ts)) A4 (nums .u8 ts) (by kernel_rfl) (tells_vw _ _)).tells 0 (row 5 1 (.slice A96 zs8.length c97) zs8.length (nums .u8 zs8)) A96 (nums .u8 zs8) (by kernel_rfl) (tells_row _ _ _ _ _ _)).tells 7 (vw A2 (nums .u8 ns)) A2 (nums .u8 ns) (by kernel_rfl) (tells_vw _ _)).tells 4 (vw A (nums .u8 ks)) A (nums .u8 ks) (by kernel_rfl) (tells_vw _ _)) ?_)
  rintro _ _ ⟨A914, c915, zs16, e17, rfl, rfl, hp18, hp19, hp20, hp21, hp22, hp23⟩
  refine orR ?_
  refine RunU.sl hU 10 (bm 14 2047) 19 (.slice A914 zs16.length c915) ?_
  refine RunU.sl hU 11 (bm 14 4095) 20 (.int .i64 e17) ?_
  refine RunU.sl hU 12 (bm 14 8191) 7 (.slice A914 zs16.length c915) ?_
  refine RunU.sl hU 13 (bm 14 16383) 8 (.int .i64 e17) ?_
  refine RunU.ev [7, 8] [(7, .slice A914 zs16.length c915), (8, .int .i64 e17)] ?_
  refine RunU.dn ?_
  refine kseq_n ?_
  refine RunC.ret ?_
  refine kret_r [.slice A914 zs16.length c915, .int .i64 e17] [0, 4, 4, 4, 0, 0, 0] [row 5 1 (.slice A914 zs16.length c915) zs16.length (nums .u8 zs16), blk p1 41 [.iface 57 (pt bk)], blk p2 24 [.slice A ks.length c], blk p3 64 [.slice A5 hb.length c5, .slice A6 cs.length c6], blk bk 61 [mv, .slice BA nb bc], row 164 4 (.slice BA nb bc) nb (bxV L), rws .u8 (bxR L)] ⟨rfl, rfl, trivial⟩ (by kernel_rfl) rfl ⟨A914, c915, zs16, e17, rfl, rfl, (by rw [← hp9]; assumption), (by rw [← hp9]; assumption), hp20, (by assumption), (fun h => hp22 (by exact h)), (by assumption)⟩
end Go.Proofs.Ytkehpipialmneaa.S6
