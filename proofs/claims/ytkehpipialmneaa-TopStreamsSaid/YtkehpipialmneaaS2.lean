/- What these functions compute: a contract for each, walked through its code. -/
import Derived.Test.YtkehpipialmneaaSLzn
import Derived.Test.YtkehpipialmneaaBPure
import Derived.Test.YtkehpipialmneaaProg
import Derived.Test.YtkehpipialmneaaX1
import Derived.Test.YtkehpipialmneaaX2
import Derived.Test.YtkehpipialmneaaX3
import Derived.Test.YtkehpipialmneaaX4
import Derived.Test.YtkehpipialmneaaX5
import Derived.Test.YtkehpipialmneaaX6
import Derived.Test.YtkehpipialmneaaX7
import Derived.Test.YtkehpipialmneaaX8
import Derived.Test.YtkehpipialmneaaX9
import Derived.Test.YtkehpipialmneaaZ1
import Derived.Test.YtkehpipialmneaaZ2
import Derived.Test.YtkehpipialmneaaS1
namespace Go.Proofs.Ytkehpipialmneaa.S2
open Go Go.Proofs.Ytkehpipialmneaa.SL Go.Proofs.Ytkehpipialmneaa.SL.W Go.Proofs.Ytkehpipialmneaa.SL.C Go.Proofs.Ytkehpipialmneaa.SL.H Go.Proofs.Ytkehpipialmneaa.SL.M Go.Proofs.Ytkehpipialmneaa.SL.Y Go.Proofs.Ytkehpipialmneaa.SL.A Go.Proofs.Ytkehpipialmneaa.SL.B Go.Proofs.Ytkehpipialmneaa.X1 Go.Proofs.Ytkehpipialmneaa.X2 Go.Proofs.Ytkehpipialmneaa.X3 Go.Proofs.Ytkehpipialmneaa.X4 Go.Proofs.Ytkehpipialmneaa.X5 Go.Proofs.Ytkehpipialmneaa.X6 Go.Proofs.Ytkehpipialmneaa.X7 Go.Proofs.Ytkehpipialmneaa.X8 Go.Proofs.Ytkehpipialmneaa.X9 Go.Proofs.Ytkehpipialmneaa.Z1 Go.Proofs.Ytkehpipialmneaa.Z2 Go.Proofs.Ytkehpipialmneaa.S1
set_option linter.unusedVariables false
set_option linter.unusedSimpArgs false
set_option maxRecDepth 100000
set_option maxHeartbeats 40000000
def U : Tab where
  und := [(3, .int .i64), (5, .int .u8), (9, .string), (24, .slice 5), (58, .map 9 3), (59, .slice 164), (60, .struct #[{ name := "texts", type := 58, offset := 0, embedded := false, tag := "", pkgPath := "orlop/crypt", byteOffset := 0 }, { name := "boxes", type := 59, offset := 1, embedded := false, tag := "", pkgPath := "orlop/crypt", byteOffset := 8 }]), (61, .struct #[{ name := "texts", type := 58, offset := 0, embedded := false, tag := "", pkgPath := "orlop/crypt", byteOffset := 0 }, { name := "boxes", type := 59, offset := 1, embedded := false, tag := "", pkgPath := "orlop/crypt", byteOffset := 8 }]), (163, .struct #[{ name := "key", type := 24, offset := 0, embedded := false, tag := "", pkgPath := "orlop/crypt", byteOffset := 0 }, { name := "nonce", type := 24, offset := 1, embedded := false, tag := "", pkgPath := "orlop/crypt", byteOffset := 24 }, { name := "beside", type := 24, offset := 2, embedded := false, tag := "", pkgPath := "orlop/crypt", byteOffset := 48 }, { name := "text", type := 24, offset := 3, embedded := false, tag := "", pkgPath := "orlop/crypt", byteOffset := 72 }]), (164, .struct #[{ name := "key", type := 24, offset := 0, embedded := false, tag := "", pkgPath := "orlop/crypt", byteOffset := 0 }, { name := "nonce", type := 24, offset := 1, embedded := false, tag := "", pkgPath := "orlop/crypt", byteOffset := 24 }, { name := "beside", type := 24, offset := 2, embedded := false, tag := "", pkgPath := "orlop/crypt", byteOffset := 48 }, { name := "text", type := 24, offset := 3, embedded := false, tag := "", pkgPath := "orlop/crypt", byteOffset := 72 }])]
  fld := [((60, 0), (0, 58)), ((60, 1), (1, 59)), ((61, 0), (0, 58)), ((61, 1), (1, 59)), ((163, 0), (0, 24)), ((163, 1), (1, 24)), ((163, 2), (2, 24)), ((163, 3), (3, 24)), ((164, 0), (0, 24)), ((164, 1), (1, 24)), ((164, 2), (2, 24)), ((164, 3), (3, 24))]
  sz := [(3, 1), (5, 1), (9, 1), (24, 1), (58, 1), (59, 1), (60, 2), (61, 2), (163, 4), (164, 4)]
  ti := [(3, (1, 8, .int .i64 0)), (5, (1, 1, .int .u8 0)), (9, (1, 16, .string ⟨#[]⟩)), (24, (1, 24, .slice none 0 0)), (58, (1, 8, .map none)), (59, (1, 24, .slice none 0 0)), (60, (2, 32, .agg #[.map none, .slice none 0 0])), (61, (2, 32, .agg #[.map none, .slice none 0 0])), (163, (4, 96, .agg #[.slice none 0 0, .slice none 0 0, .slice none 0 0, .slice none 0 0])), (164, (4, 96, .agg #[.slice none 0 0, .slice none 0 0, .slice none 0 0, .slice none 0 0]))]
  bld := [(60, [(0, 1), (1, 1)]), (61, [(0, 1), (1, 1)]), (163, [(0, 1), (1, 1), (2, 1), (3, 1)]), (164, [(0, 1), (1, 1), (2, 1), (3, 1)])]

theorem hU : U.OK Try.prog where
  und := by
    intro p hp
    simp only [U, List.mem_cons, List.not_mem_nil, or_false] at hp
    rcases hp with rfl | rfl | rfl | rfl | rfl | rfl | rfl | rfl | rfl | rfl
    · exact Try.underlying3
    · exact Try.underlying5
    · exact Try.underlying9
    · exact Try.underlying24
    · exact Try.underlying58
    · exact Try.underlying59
    · exact Try.underlying60
    · exact Try.underlying61
    · exact Try.underlying163
    · exact Try.underlying164
  fld := by
    intro p hp
    simp only [U, List.mem_cons, List.not_mem_nil, or_false] at hp
    rcases hp with rfl | rfl | rfl | rfl | rfl | rfl | rfl | rfl | rfl | rfl | rfl | rfl
    · exact ⟨_, _, Try.underlying60, rfl, rfl, rfl, Try.prog.types[58]!, by kernel_rfl, by decide +kernel⟩
    · exact ⟨_, _, Try.underlying60, rfl, rfl, rfl, Try.prog.types[59]!, by kernel_rfl, by decide +kernel⟩
    · exact ⟨_, _, Try.underlying61, rfl, rfl, rfl, Try.prog.types[58]!, by kernel_rfl, by decide +kernel⟩
    · exact ⟨_, _, Try.underlying61, rfl, rfl, rfl, Try.prog.types[59]!, by kernel_rfl, by decide +kernel⟩
    · exact ⟨_, _, Try.underlying163, rfl, rfl, rfl, Try.prog.types[24]!, by kernel_rfl, by decide +kernel⟩
    · exact ⟨_, _, Try.underlying163, rfl, rfl, rfl, Try.prog.types[24]!, by kernel_rfl, by decide +kernel⟩
    · exact ⟨_, _, Try.underlying163, rfl, rfl, rfl, Try.prog.types[24]!, by kernel_rfl, by decide +kernel⟩
    · exact ⟨_, _, Try.underlying163, rfl, rfl, rfl, Try.prog.types[24]!, by kernel_rfl, by decide +kernel⟩
    · exact ⟨_, _, Try.underlying164, rfl, rfl, rfl, Try.prog.types[24]!, by kernel_rfl, by decide +kernel⟩
    · exact ⟨_, _, Try.underlying164, rfl, rfl, rfl, Try.prog.types[24]!, by kernel_rfl, by decide +kernel⟩
    · exact ⟨_, _, Try.underlying164, rfl, rfl, rfl, Try.prog.types[24]!, by kernel_rfl, by decide +kernel⟩
    · exact ⟨_, _, Try.underlying164, rfl, rfl, rfl, Try.prog.types[24]!, by kernel_rfl, by decide +kernel⟩
  sz := by
    intro p hp
    simp only [U, List.mem_cons, List.not_mem_nil, or_false] at hp
    rcases hp with rfl | rfl | rfl | rfl | rfl | rfl | rfl | rfl | rfl | rfl
    · exact ⟨Try.prog.types[3]!, by kernel_rfl, by kernel_rfl⟩
    · exact ⟨Try.prog.types[5]!, by kernel_rfl, by kernel_rfl⟩
    · exact ⟨Try.prog.types[9]!, by kernel_rfl, by kernel_rfl⟩
    · exact ⟨Try.prog.types[24]!, by kernel_rfl, by kernel_rfl⟩
    · exact ⟨Try.prog.types[58]!, by kernel_rfl, by kernel_rfl⟩
    · exact ⟨Try.prog.types[59]!, by kernel_rfl, by kernel_rfl⟩
    · exact ⟨Try.prog.types[60]!, by kernel_rfl, by kernel_rfl⟩
    · exact ⟨Try.prog.types[61]!, by kernel_rfl, by kernel_rfl⟩
    · exact ⟨Try.prog.types[163]!, by kernel_rfl, by kernel_rfl⟩
    · exact ⟨Try.prog.types[164]!, by kernel_rfl, by kernel_rfl⟩
  ti := by
    intro p hp
    simp only [U, List.mem_cons, List.not_mem_nil, or_false] at hp
    rcases hp with rfl | rfl | rfl | rfl | rfl | rfl | rfl | rfl | rfl | rfl
    · exact ⟨Try.prog.types[3]!, by kernel_rfl, by kernel_rfl, by kernel_rfl, by kernel_rfl⟩
    · exact ⟨Try.prog.types[5]!, by kernel_rfl, by kernel_rfl, by kernel_rfl, by kernel_rfl⟩
    · exact ⟨Try.prog.types[9]!, by kernel_rfl, by kernel_rfl, by kernel_rfl, by kernel_rfl⟩
    · exact ⟨Try.prog.types[24]!, by kernel_rfl, by kernel_rfl, by kernel_rfl, by kernel_rfl⟩
    · exact ⟨Try.prog.types[58]!, by kernel_rfl, by kernel_rfl, by kernel_rfl, by kernel_rfl⟩
    · exact ⟨Try.prog.types[59]!, by kernel_rfl, by kernel_rfl, by kernel_rfl, by kernel_rfl⟩
    · exact ⟨Try.prog.types[60]!, by kernel_rfl, by kernel_rfl, by kernel_rfl, by kernel_rfl⟩
    · exact ⟨Try.prog.types[61]!, by kernel_rfl, by kernel_rfl, by kernel_rfl, by kernel_rfl⟩
    · exact ⟨Try.prog.types[163]!, by kernel_rfl, by kernel_rfl, by kernel_rfl, by kernel_rfl⟩
    · exact ⟨Try.prog.types[164]!, by kernel_rfl, by kernel_rfl, by kernel_rfl, by kernel_rfl⟩
  bld := by
    intro p hp
    simp only [U, List.mem_cons, List.not_mem_nil, or_false] at hp
    rcases hp with rfl | rfl | rfl | rfl
    · exact ⟨_, Try.underlying60, by kernel_rfl⟩
    · exact ⟨_, Try.underlying61, by kernel_rfl⟩
    · exact ⟨_, Try.underlying163, by kernel_rfl⟩
    · exact ⟨_, Try.underlying164, by kernel_rfl⟩
  mixed := by kernel_rfl

theorem b_Seal_spec (bk : Nat) (mv : Value) (BA : Option Addr) (bc : Nat) (nb : Nat) (L : List Bx) (A : Option Addr) (c : Nat) (ks : List Int) (A2 : Option Addr) (c2 : Nat) (ns : List Int) (A3 : Option Addr) (c3 : Nat) (bs : List Int) (A4 : Option Addr) (c4 : Nat) (ts : List Int) (l_ks : Nat) (l_ns : Nat) (l_bs : Nat) (l_ts : Nat) (hL : RowsOK .u8 (bxR L)) (hLn : L.length = nb) (hLl : nb ≤ 1000000) (hLc : nb ≤ bc) (hLA : 0 < nb → Option.isSome BA = true) (hIks : In .u8 ks) (hCks : ks.length ≤ c) (hBks : ks.length ≤ 17592186044416) (hIns : In .u8 ns) (hCns : ns.length ≤ c2) (hBns : ns.length ≤ 17592186044416) (hIbs : In .u8 bs) (hCbs : bs.length ≤ c3) (hBbs : bs.length ≤ 17592186044416) (hIts : In .u8 ts) (hCts : ts.length ≤ c4) (hBts : ts.length ≤ 17592186044416) (hk : ks.length = 32 ∧ ns.length = 12) (hl_ks : ks.length = l_ks) (hl_ns : ns.length = l_ns) (hl_bs : bs.length = l_bs) (hl_ts : ts.length = l_ts) :
    CallsS Try.prog 118 [pt bk, .slice A l_ks c, .slice A2 l_ns c2, .slice A3 l_bs c3, .slice A4 l_ts c4] [blk bk 61 [mv, .slice BA nb bc], row 164 4 (.slice BA nb bc) nb (bxV L), rws .u8 (bxR L), vw A (nums .u8 ks), vw A2 (nums .u8 ns), vw A3 (nums .u8 bs), vw A4 (nums .u8 ts)] (fun r D => ∃ (A9 : Option Addr) (c9 : Nat) (zs : List Int) (BA9 : Option Addr) (bc9 : Nat) (M : List Bx), r = .tuple #[.slice A9 zs.length c9, .int .i64 0] ∧ D = [row 5 1 (.slice A9 zs.length c9) zs.length (nums .u8 zs), blk bk 61 [mv, .slice BA9 (nb + 1) bc9], row 164 4 (.slice BA9 (nb + 1) bc9) (nb + 1) (bxV M), rws .u8 (bxR M)] ∧ (zs = boxL nb (ts.length + 16)) ∧ (In .u8 zs) ∧ (zs.length ≤ c9) ∧ (0 < zs.length → Option.isSome A9 = true) ∧ (bxM M = bxM L ++ [(ks, ns, bs, ts)]) ∧ (M.length = nb + 1) ∧ (RowsOK .u8 (bxR M)) ∧ (nb + 1 ≤ bc9) ∧ (0 < nb + 1 → Option.isSome BA9 = true) ∧ (zs.length = ts.length + 16)) := by
  subst hl_ks
  subst hl_ns
  subst hl_bs
  subst hl_ts
  refine CallsS.enter hU Try.f118 _ [.tmp 10, .tmp 11] 45 Try.func118 rfl (by decide) rfl rfl (by kernel_rfl) fun w0 W => ?_
  refine RunC.know (p := 0 < ks.length → Option.isSome A = true) (fun _ _ w hs => vw_some hs 3 rfl (by (simp [nums_length]; done))) (fun hA1 => ?_)
  refine RunC.know (p := 0 < ns.length → Option.isSome A2 = true) (fun _ _ w hs => vw_some hs 4 rfl (by (simp [nums_length]; done))) (fun hA2 => ?_)
  refine RunC.know (p := 0 < bs.length → Option.isSome A3 = true) (fun _ _ w hs => vw_some hs 5 rfl (by (simp [nums_length]; done))) (fun hA3 => ?_)
  refine RunC.know (p := 0 < ts.length → Option.isSome A4 = true) (fun _ _ w hs => vw_some hs 6 rfl (by (simp [nums_length]; done))) (fun hA4 => ?_)
  refine RunC.sr ?_
  refine RunR.sl hU [] 2 2 [0, 1, 2, 3, 4, 10, 11] [(0, pt bk), (1, .slice A ks.length c), (2, .slice A2 ns.length c2), (3, .slice A3 bs.length c3), (4, .slice A4 ts.length c4), (10, .slice none 0 0), (11, .int .i64 0)] 2 ?_
  refine RunR.nn ?_
  refine RunC.seq ?_
  refine RunC.sr ?_
  refine RunR.sl hU [] 2 2 [0, 1, 2, 3, 4, 10, 11, 13, 14] [(0, pt bk), (1, .slice A ks.length c), (2, .slice A2 ns.length c2), (3, .slice A3 bs.length c3), (4, .slice A4 ts.length c4), (10, .slice none 0 0), (11, .int .i64 0), (13, .slice A ks.length c), (14, .slice A2 ns.length c2)] 2 ?_
  refine RunR.st (some 15) (.call { callee := .value (.func 120), args := #[.tmp 13, .tmp 14], argTypes := #[24, 24] }) (Step.cn 120 [.slice A ks.length c, .slice A2 ns.length c2] [] [blk bk 61 [mv, .slice BA nb bc], row 164 4 (.slice BA nb bc) nb (bxV L), rws .u8 (bxR L), vw A (nums .u8 ks), vw A2 (nums .u8 ns), vw A3 (nums .u8 bs), vw A4 (nums .u8 ts)] (k_may_spec A c ks.length A2 c2 ns.length) [] ?_)
  rintro _ _ ⟨rfl, rfl⟩
  refine RunR.sl hU [] 1 4 [0, 1, 2, 3, 4, 10, 11, 16] [(0, pt bk), (1, .slice A ks.length c), (2, .slice A2 ns.length c2), (3, .slice A3 bs.length c3), (4, .slice A4 ts.length c4), (10, .slice none 0 0), (11, .int .i64 0), (16, .bool (!decide (ks.length = 32 ∧ ns.length = 12)))] 1 ?_
  refine RunR.ev [0, 1, 2, 3, 4, 10, 11, 16] [(0, pt bk), (1, .slice A ks.length c), (2, .slice A2 ns.length c2), (3, .slice A3 bs.length c3), (4, .slice A4 ts.length c4), (10, .slice none 0 0), (11, .int .i64 0), (16, .bool (!decide (ks.length = 32 ∧ ns.length = 12)))] ?_
  have hk5 : (ks.length = 32 ∧ ns.length = 12) := by assumption
  refine RunR.enveq [(0, pt bk), (1, .slice A ks.length c), (2, .slice A2 ns.length c2), (3, .slice A3 bs.length c3), (4, .slice A4 ts.length c4), (10, .slice none 0 0), (11, .int .i64 0), (16, .bool false)] (by rw [decide_eq_true hk5]; try rfl) ?_
  refine RunR.nn ?_
  refine RunC.cond (b := false) (by kernel_rfl) (fun h => by cases h) (fun _ => ?_)
  refine RunC.ksr ?_
  refine RunR.sl hU [] 3 3 [0, 1, 2, 3, 4, 10, 11, 19] [(0, pt bk), (1, .slice A ks.length c), (2, .slice A2 ns.length c2), (3, .slice A3 bs.length c3), (4, .slice A4 ts.length c4), (10, .slice none 0 0), (11, .int .i64 0), (19, .pointer (some ⟨bk, 1, none⟩))] 3 ?_
  refine RunR.st (some 20) (.load 59 (.tmp 19)) (Step.load_blk hU 0 bk (1) 61 [mv, .slice BA nb bc] (.slice BA nb bc) (by kernel_rfl) (by kernel_rfl) (by kernel_rfl) (by kernel_rfl) ?_)
  refine RunR.sl hU [] 2 6 [0, 1, 2, 3, 4, 10, 11, 12] [(0, pt bk), (1, .slice A ks.length c), (2, .slice A2 ns.length c2), (3, .slice A3 bs.length c3), (4, .slice A4 ts.length c4), (10, .slice none 0 0), (11, .int .i64 0), (12, .int .i64 ((nb : Nat) : Int))] 2 ?_
  refine RunR.nn ?_
  refine RunC.seq ?_
  refine RunC.regionU hU 19 [blk bk 61 [mv, .slice BA nb bc]] [0] [15, 16, 17, 18] (bm 19 0) (by kernel_rfl) (by kernel_rfl) (by kernel_rfl) ?_
  refine RunU.sl hU 0 (bm 19 1) 22 (pt bk) ?_
  refine RunU.sl hU 1 (bm 19 3) 23 (pt bk) ?_
  refine RunU.sl hU 2 (bm 19 7) 24 (pt bk) ?_
  refine RunU.sl hU 3 (bm 19 15) 25 (.pointer (some ⟨bk, 1, none⟩)) ?_
  refine RunU.rd 4 (bm 19 31) 26 (.load 59 (.tmp 25)) (.slice BA nb bc) [0] (Reads.load_blk hU 0 bk (1) 61 [mv, .slice BA nb bc] (.slice BA nb bc) (by kernel_rfl) (by kernel_rfl) (by kernel_rfl)) ?_
  refine RunU.sl hU 5 (bm 19 63) 27 (.slice A ks.length c) ?_
  refine RunU.sl hU 7 (bm 19 191) 29 (.slice A2 ns.length c2) ?_
  refine RunU.sl hU 9 (bm 19 703) 31 (.slice A3 bs.length c3) ?_
  refine RunU.sl hU 11 (bm 19 2751) 33 (.slice A4 ts.length c4) ?_
  refine RunU.on (some 28) (.call { callee := .value (.func 124), args := #[.tmp 27], argTypes := #[24] }) 6 (bm 19 2815) [1] (Step.cl 124 [.slice A ks.length c] [] [vw A (nums .u8 ks)] [blk bk 61 [mv, .slice BA nb bc], row 164 4 (.slice BA nb bc) nb (bxV L), rws .u8 (bxR L), vw A (nums .u8 ks), vw A2 (nums .u8 ns), vw A3 (nums .u8 bs), vw A4 (nums .u8 ts)] (k_Clone_spec A c ks ks.length hIks (by assumption) (by omega) (by rfl)) [] ((Lend.nil _).tells 3 (vw A (nums .u8 ks)) A (nums .u8 ks) (by kernel_rfl) (tells_vw _ _)) ?_)
  rintro _ _ ⟨A96, c97, zs8, rfl, rfl, hp9, hp10, hp11, hp12⟩
  refine orL ?_
  refine RunU.on (some 30) (.call { callee := .value (.func 124), args := #[.tmp 29], argTypes := #[24] }) 8 (bm 19 3071) [2] (Step.cl 124 [.slice A2 ns.length c2] [] [vw A2 (nums .u8 ns)] [row 5 1 (.slice A96 zs8.length c97) zs8.length (nums .u8 zs8), blk bk 61 [mv, .slice BA nb bc], row 164 4 (.slice BA nb bc) nb (bxV L), rws .u8 (bxR L), vw A (nums .u8 ks), vw A2 (nums .u8 ns), vw A3 (nums .u8 bs), vw A4 (nums .u8 ts)] (k_Clone_spec A2 c2 ns ns.length hIns (by assumption) (by omega) (by rfl)) [] ((Lend.nil _).tells 5 (vw A2 (nums .u8 ns)) A2 (nums .u8 ns) (by kernel_rfl) (tells_vw _ _)) ?_)
  rintro _ _ ⟨A913, c914, zs15, rfl, rfl, hp16, hp17, hp18, hp19⟩
  refine orL ?_
  refine RunU.on (some 32) (.call { callee := .value (.func 124), args := #[.tmp 31], argTypes := #[24] }) 10 (bm 19 4095) [3] (Step.cl 124 [.slice A3 bs.length c3] [] [vw A3 (nums .u8 bs)] [row 5 1 (.slice A913 zs15.length c914) zs15.length (nums .u8 zs15), row 5 1 (.slice A96 zs8.length c97) zs8.length (nums .u8 zs8), blk bk 61 [mv, .slice BA nb bc], row 164 4 (.slice BA nb bc) nb (bxV L), rws .u8 (bxR L), vw A (nums .u8 ks), vw A2 (nums .u8 ns), vw A3 (nums .u8 bs), vw A4 (nums .u8 ts)] (k_Clone_spec A3 c3 bs bs.length hIbs (by assumption) (by omega) (by rfl)) [] ((Lend.nil _).tells 7 (vw A3 (nums .u8 bs)) A3 (nums .u8 bs) (by kernel_rfl) (tells_vw _ _)) ?_)
  rintro _ _ ⟨A920, c921, zs22, rfl, rfl, hp23, hp24, hp25, hp26⟩
  refine orL ?_
  refine RunU.on (some 34) (.call { callee := .value (.func 124), args := #[.tmp 33], argTypes := #[24] }) 12 (bm 19 8191) [4] (Step.cl 124 [.slice A4 ts.length c4] [] [vw A4 (nums .u8 ts)] [row 5 1 (.slice A920 zs22.length c921) zs22.length (nums .u8 zs22), row 5 1 (.slice A913 zs15.length c914) zs15.length (nums .u8 zs15), row 5 1 (.slice A96 zs8.length c97) zs8.length (nums .u8 zs8), blk bk 61 [mv, .slice BA nb bc], row 164 4 (.slice BA nb bc) nb (bxV L), rws .u8 (bxR L), vw A (nums .u8 ks), vw A2 (nums .u8 ns), vw A3 (nums .u8 bs), vw A4 (nums .u8 ts)] (k_Clone_spec A4 c4 ts ts.length hIts (by assumption) (by omega) (by rfl)) [] ((Lend.nil _).tells 9 (vw A4 (nums .u8 ts)) A4 (nums .u8 ts) (by kernel_rfl) (tells_vw _ _)) ?_)
  rintro _ _ ⟨A927, c928, zs29, rfl, rfl, hp30, hp31, hp32, hp33⟩
  refine orL ?_
  refine RunU.sl hU 13 (bm 19 16383) 35 (.agg #[.slice A96 zs8.length c97, .slice A913 zs15.length c914, .slice A920 zs22.length c921, .slice A927 zs29.length c928]) ?_
  refine RunU.on (some 36) (.buildSlice 59 1 #[(0, .tmp 35)]) 14 (bm 19 32767) [5] (Step.lit_bx hU 164 96 (.agg #[.slice none 0 0, .slice none 0 0, .slice none 0 0, .slice none 0 0]) (.slice A96 zs8.length c97) (.slice A913 zs15.length c914) (.slice A920 zs22.length c921) (.slice A927 zs29.length c928) (by kernel_rfl) (by kernel_rfl) (by kernel_rfl) (by kernel_rfl) (fun b34 => ?_))
  refine orL ?_
  refine RunU.turn ([row 164 4 (.slice (some ⟨b34, 0, none⟩) 1 1) 1 (bxV ([((A96, c97, zs8), (A913, c914, zs15), (A920, c921, zs22), (A927, c928, zs29))] : List Bx)), row 5 1 (.slice A927 zs29.length c928) zs29.length (nums .u8 zs29), row 5 1 (.slice A920 zs22.length c921) zs22.length (nums .u8 zs22), row 5 1 (.slice A913 zs15.length c914) zs15.length (nums .u8 zs15), row 5 1 (.slice A96 zs8.length c97) zs8.length (nums .u8 zs8), blk bk 61 [mv, .slice BA nb bc], row 164 4 (.slice BA nb bc) nb (bxV L), rws .u8 (bxR L), vw A (nums .u8 ks), vw A2 (nums .u8 ns), vw A3 (nums .u8 bs), vw A4 (nums .u8 ts)]) (fun _ _ w hs => hs) ?_
  refine RunU.on (some 37) (.call { callee := .builtin .append, args := #[.tmp 26, .tmp 36], argTypes := #[59, 59] }) 15 (bm 19 65535) [] (Step.append_bx hU 164 96 (.agg #[.slice none 0 0, .slice none 0 0, .slice none 0 0, .slice none 0 0]) 6 0 BA nb bc L (some ⟨b34, 0, none⟩) 1 1 (row 164 4 (.slice (some ⟨b34, 0, none⟩) 1 1) 1 (bxV ([((A96, c97, zs8), (A913, c914, zs15), (A920, c921, zs22), (A927, c928, zs29))] : List Bx))) ([((A96, c97, zs8), (A913, c914, zs15), (A920, c921, zs22), (A927, c928, zs29))] : List Bx) (by kernel_rfl) (by kernel_rfl) (by kernel_rfl) (by kernel_rfl) (by kernel_rfl) (by kernel_rfl) (by kernel_rfl) (tells_row _ _ _ _ _ _) (by rfl) (by omega) (by omega) (by kernel_rfl) (fun Aq35 cq36 hc37 hA38 => ?_))
  refine orR ?_
  refine RunU.turn ([rws .u8 (bxR (L ++ ([((A96, c97, zs8), (A913, c914, zs15), (A920, c921, zs22), (A927, c928, zs29))] : List Bx))), row 164 4 (.slice Aq35 (nb + 1) cq36) (nb + 1) (bxV (L ++ ([((A96, c97, zs8), (A913, c914, zs15), (A920, c921, zs22), (A927, c928, zs29))] : List Bx))), row 164 4 (.slice (some ⟨b34, 0, none⟩) 1 1) 1 (bxV ([((A96, c97, zs8), (A913, c914, zs15), (A920, c921, zs22), (A927, c928, zs29))] : List Bx)), blk bk 61 [mv, .slice BA nb bc], vw A (nums .u8 ks), vw A2 (nums .u8 ns), vw A3 (nums .u8 bs), vw A4 (nums .u8 ts)]) (fun _ _ w hs => SAT.bxPush A96 c97 zs8 A913 c914 zs15 A920 c921 zs22 A927 c928 zs29 rfl (tells_row _ _ _ _ _ _) rfl (tells_row _ _ _ _ _ _) rfl (tells_row _ _ _ _ _ _) rfl (tells_row _ _ _ _ _ _) (hs.pulls2 [5, 4, 3, 2, 3] ([row 5 1 (.slice A96 zs8.length c97) zs8.length (nums .u8 zs8), row 5 1 (.slice A913 zs15.length c914) zs15.length (nums .u8 zs15), row 5 1 (.slice A920 zs22.length c921) zs22.length (nums .u8 zs22), row 5 1 (.slice A927 zs29.length c928) zs29.length (nums .u8 zs29), rws .u8 (bxR L), row 164 4 (.slice Aq35 (nb + 1) cq36) (nb + 1) (bxV (L ++ ([((A96, c97, zs8), (A913, c914, zs15), (A920, c921, zs22), (A927, c928, zs29))] : List Bx))), row 164 4 (.slice (some ⟨b34, 0, none⟩) 1 1) 1 (bxV ([((A96, c97, zs8), (A913, c914, zs15), (A920, c921, zs22), (A927, c928, zs29))] : List Bx)), blk bk 61 [mv, .slice BA nb bc], vw A (nums .u8 ks), vw A2 (nums .u8 ns), vw A3 (nums .u8 bs), vw A4 (nums .u8 ts)]) (by kernel_rfl))) ?_
  refine RunU.sl hU 16 (bm 19 131071) 38 (pt bk) ?_
  refine RunU.sl hU 17 (bm 19 262143) 39 (.pointer (some ⟨bk, 1, none⟩)) ?_
  refine RunU.on none (.store 59 (.tmp 39) (.tmp 37)) 18 (bm 19 524287) [] (Step.store_blk hU 3 bk 1 61 [mv, .slice BA nb bc] (.slice Aq35 (nb + 1) cq36) (by kernel_rfl) (by kernel_rfl) (by kernel_rfl) 1 rfl [.slice Aq35 (nb + 1) cq36] (by kernel_rfl) rfl (by kernel_rfl) (by simp) ?_)
  refine orR ?_
  refine RunU.ev [4, 10, 11, 12] [(4, .slice A4 ts.length c4), (10, .slice none 0 0), (11, .int .i64 0), (12, .int .i64 ((nb : Nat) : Int))] ?_
  refine RunU.dn ?_
  refine kseq_n ?_
  refine RunC.sr ?_
  refine RunR.sil hU [3] 4 4 [10, 11, 40, 43] [(10, .slice none 0 0), (11, .int .i64 0), (40, .int .i64 ((nb : Nat) : Int)), (43, .int .i64 (((ts.length : Nat) : Int) + 16))] ((True) ∧ (True) ∧ (True) ∧ (-9223372036854775808 ≤ (((ts.length : Nat) : Int) + 16) ∧ (((ts.length : Nat) : Int) + 16) < 9223372036854775808) ∧ True) rfl (by kernel_rfl) ⟨trivial, trivial, trivial, (by omega), trivial⟩ ?_
  refine RunR.st (some 44) (.call { callee := .value (.func 123), args := #[.tmp 40, .tmp 43], argTypes := #[3, 3] }) (Step.cn 123 [.int .i64 ((nb : Nat) : Int), .int .i64 (((ts.length : Nat) : Int) + 16)] [] [blk bk 61 [mv, .slice Aq35 (nb + 1) cq36], rws .u8 (bxR (L ++ ([((A96, c97, zs8), (A913, c914, zs15), (A920, c921, zs22), (A927, c928, zs29))] : List Bx))), row 164 4 (.slice Aq35 (nb + 1) cq36) (nb + 1) (bxV (L ++ ([((A96, c97, zs8), (A913, c914, zs15), (A920, c921, zs22), (A927, c928, zs29))] : List Bx))), row 164 4 (.slice (some ⟨b34, 0, none⟩) 1 1) 1 (bxV ([((A96, c97, zs8), (A913, c914, zs15), (A920, c921, zs22), (A927, c928, zs29))] : List Bx)), vw A (nums .u8 ks), vw A2 (nums .u8 ns), vw A3 (nums .u8 bs), vw A4 (nums .u8 ts)] (k_bytesOf_spec ((nb : Nat) : Int) (((ts.length : Nat) : Int) + 16) (by omega) (by omega)) [] ?_)
  rintro _ _ ⟨A939, c940, zs41, rfl, rfl, hp42, hp43, hp44, hp45, hp46⟩
  refine RunR.sl hU [] 2 7 [10, 11] [(10, .slice A939 zs41.length c940), (11, .int .i64 0)] 2 ?_
  refine RunR.nn ?_
  refine RunC.ret ?_
  refine kret_r [.slice A939 zs41.length c940, .int .i64 0] [0, 0, 1, 0] [row 5 1 (.slice A939 zs41.length c940) zs41.length (nums .u8 zs41), blk bk 61 [mv, .slice Aq35 (nb + 1) cq36], row 164 4 (.slice Aq35 (nb + 1) cq36) (nb + 1) (bxV (L ++ ([((A96, c97, zs8), (A913, c914, zs15), (A920, c921, zs22), (A927, c928, zs29))] : List Bx))), rws .u8 (bxR (L ++ ([((A96, c97, zs8), (A913, c914, zs15), (A920, c921, zs22), (A927, c928, zs29))] : List Bx)))] ⟨rfl, rfl, trivial⟩ (by kernel_rfl) rfl ⟨A939, c940, zs41, Aq35, cq36, (L ++ ([((A96, c97, zs8), (A913, c914, zs15), (A920, c921, zs22), (A927, c928, zs29))] : List Bx)), rfl, rfl, (by assumption), hp44, (by assumption), (fun h => hp46 (by exact h)), (by rw [bxM_snoc]; simp only [bxT, hp9, hp16, hp23, hp30, hp42]), (by rw [List.length_append, hLn]; rfl), (by exact hL.bxSnoc ⟨by assumption, by assumption, by simp only [hp9, hp16, hp23, hp30, hp42]; omega⟩ ⟨by assumption, by assumption, by simp only [hp9, hp16, hp23, hp30, hp42]; omega⟩ ⟨by assumption, by assumption, by simp only [hp9, hp16, hp23, hp30, hp42]; omega⟩ ⟨by assumption, by assumption, by simp only [hp9, hp16, hp23, hp30, hp42]; omega⟩), (by assumption), (by assumption), (by omega)⟩
end Go.Proofs.Ytkehpipialmneaa.S2
