/- What these functions compute: a contract for each, walked through its code. -/
import Derived.Test.YtkehpipialmneaaSLzn
import Derived.Test.YtkehpipialmneaaBPure
import Derived.Test.YtkehpipialmneaaProg
import Derived.Test.YtkehpipialmneaaX1
import Derived.Test.YtkehpipialmneaaX2
import Derived.Test.YtkehpipialmneaaX3
import Derived.Test.YtkehpipialmneaaX4
import Derived.Test.YtkehpipialmneaaX5
import Derived.Test.YtkehpipialmneaaX6
import Derived.Test.YtkehpipialmneaaX7
import Derived.Test.YtkehpipialmneaaX8
import Derived.Test.YtkehpipialmneaaX9
import Derived.Test.YtkehpipialmneaaZ1
import Derived.Test.YtkehpipialmneaaZ2
import Derived.Test.YtkehpipialmneaaS1
import Derived.Test.YtkehpipialmneaaS2
import Derived.Test.YtkehpipialmneaaS3
import Derived.Test.YtkehpipialmneaaS4
import Derived.Test.YtkehpipialmneaaS5
import Derived.Test.YtkehpipialmneaaS6
import Derived.Test.YtkehpipialmneaaS7
import Derived.Test.YtkehpipialmneaaS8
namespace Go.Proofs.Ytkehpipialmneaa.S9
open Go Go.Proofs.Ytkehpipialmneaa.SL Go.Proofs.Ytkehpipialmneaa.SL.W Go.Proofs.Ytkehpipialmneaa.SL.C Go.Proofs.Ytkehpipialmneaa.SL.H Go.Proofs.Ytkehpipialmneaa.SL.M Go.Proofs.Ytkehpipialmneaa.SL.Y Go.Proofs.Ytkehpipialmneaa.SL.A Go.Proofs.Ytkehpipialmneaa.SL.B Go.Proofs.Ytkehpipialmneaa.X1 Go.Proofs.Ytkehpipialmneaa.X2 Go.Proofs.Ytkehpipialmneaa.X3 Go.Proofs.Ytkehpipialmneaa.X4 Go.Proofs.Ytkehpipialmneaa.X5 Go.Proofs.Ytkehpipialmneaa.X6 Go.Proofs.Ytkehpipialmneaa.X7 Go.Proofs.Ytkehpipialmneaa.X8 Go.Proofs.Ytkehpipialmneaa.X9 Go.Proofs.Ytkehpipialmneaa.Z1 Go.Proofs.Ytkehpipialmneaa.Z2 Go.Proofs.Ytkehpipialmneaa.S1 Go.Proofs.Ytkehpipialmneaa.S2 Go.Proofs.Ytkehpipialmneaa.S3 Go.Proofs.Ytkehpipialmneaa.S4 Go.Proofs.Ytkehpipialmneaa.S5 Go.Proofs.Ytkehpipialmneaa.S6 Go.Proofs.Ytkehpipialmneaa.S7 Go.Proofs.Ytkehpipialmneaa.S8
set_option linter.unusedVariables false
set_option linter.unusedSimpArgs false
set_option maxRecDepth 100000
set_option maxHeartbeats 40000000
def U : Tab where
  und := [(3, .int .i64), (5, .int .u8), (9, .string), (24, .slice 5), (40, .interface #[("Open", 30), ("Seal", 30), ("Sum", 82)]), (41, .interface #[("Open", 30), ("Seal", 30), ("Sum", 82)]), (57, .pointer 61), (58, .map 9 3), (59, .slice 164), (60, .struct #[{ name := "texts", type := 58, offset := 0, embedded := false, tag := "", pkgPath := "orlop/crypt", byteOffset := 0 }, { name := "boxes", type := 59, offset := 1, embedded := false, tag := "", pkgPath := "orlop/crypt", byteOffset := 8 }]), (61, .struct #[{ name := "texts", type := 58, offset := 0, embedded := false, tag := "", pkgPath := "orlop/crypt", byteOffset := 0 }, { name := "boxes", type := 59, offset := 1, embedded := false, tag := "", pkgPath := "orlop/crypt", byteOffset := 8 }]), (63, .struct #[{ name := "bytes", type := 24, offset := 0, embedded := false, tag := "", pkgPath := "orlop/seal", byteOffset := 0 }, { name := "context", type := 24, offset := 1, embedded := false, tag := "", pkgPath := "orlop/seal", byteOffset := 24 }]), (64, .struct #[{ name := "bytes", type := 24, offset := 0, embedded := false, tag := "", pkgPath := "orlop/seal", byteOffset := 0 }, { name := "context", type := 24, offset := 1, embedded := false, tag := "", pkgPath := "orlop/seal", byteOffset := 24 }]), (67, .slice 24), (163, .struct #[{ name := "key", type := 24, offset := 0, embedded := false, tag := "", pkgPath := "orlop/crypt", byteOffset := 0 }, { name := "nonce", type := 24, offset := 1, embedded := false, tag := "", pkgPath := "orlop/crypt", byteOffset := 24 }, { name := "beside", type := 24, offset := 2, embedded := false, tag := "", pkgPath := "orlop/crypt", byteOffset := 48 }, { name := "text", type := 24, offset := 3, embedded := false, tag := "", pkgPath := "orlop/crypt", byteOffset := 72 }]), (164, .struct #[{ name := "key", type := 24, offset := 0, embedded := false, tag := "", pkgPath := "orlop/crypt", byteOffset := 0 }, { name := "nonce", type := 24, offset := 1, embedded := false, tag := "", pkgPath := "orlop/crypt", byteOffset := 24 }, { name := "beside", type := 24, offset := 2, embedded := false, tag := "", pkgPath := "orlop/crypt", byteOffset := 48 }, { name := "text", type := 24, offset := 3, embedded := false, tag := "", pkgPath := "orlop/crypt", byteOffset := 72 }])]
  fld := [((60, 0), (0, 58)), ((60, 1), (1, 59)), ((61, 0), (0, 58)), ((61, 1), (1, 59)), ((63, 0), (0, 24)), ((63, 1), (1, 24)), ((64, 0), (0, 24)), ((64, 1), (1, 24)), ((163, 0), (0, 24)), ((163, 1), (1, 24)), ((163, 2), (2, 24)), ((163, 3), (3, 24)), ((164, 0), (0, 24)), ((164, 1), (1, 24)), ((164, 2), (2, 24)), ((164, 3), (3, 24))]
  sz := [(3, 1), (5, 1), (9, 1), (24, 1), (40, 1), (41, 1), (57, 1), (58, 1), (59, 1), (60, 2), (61, 2), (63, 2), (64, 2), (67, 1), (163, 4), (164, 4)]
  ti := [(3, (1, 8, .int .i64 0)), (5, (1, 1, .int .u8 0)), (9, (1, 16, .string ⟨#[]⟩)), (24, (1, 24, .slice none 0 0)), (40, (1, 16, .nilIface)), (41, (1, 16, .nilIface)), (57, (1, 8, .pointer none)), (58, (1, 8, .map none)), (59, (1, 24, .slice none 0 0)), (60, (2, 32, .agg #[.map none, .slice none 0 0])), (61, (2, 32, .agg #[.map none, .slice none 0 0])), (63, (2, 48, .agg #[.slice none 0 0, .slice none 0 0])), (64, (2, 48, .agg #[.slice none 0 0, .slice none 0 0])), (67, (1, 24, .slice none 0 0)), (163, (4, 96, .agg #[.slice none 0 0, .slice none 0 0, .slice none 0 0, .slice none 0 0])), (164, (4, 96, .agg #[.slice none 0 0, .slice none 0 0, .slice none 0 0, .slice none 0 0]))]
  bld := [(60, [(0, 1), (1, 1)]), (61, [(0, 1), (1, 1)]), (63, [(0, 1), (1, 1)]), (64, [(0, 1), (1, 1)]), (163, [(0, 1), (1, 1), (2, 1), (3, 1)]), (164, [(0, 1), (1, 1), (2, 1), (3, 1)])]

theorem hU : U.OK Try.prog where
  und := by
    intro p hp
    simp only [U, List.mem_cons, List.not_mem_nil, or_false] at hp
    rcases hp with rfl | rfl | rfl | rfl | rfl | rfl | rfl | rfl | rfl | rfl | rfl | rfl | rfl | rfl | rfl | rfl
    · exact Try.underlying3
    · exact Try.underlying5
    · exact Try.underlying9
    · exact Try.underlying24
    · exact Try.underlying40
    · exact Try.underlying41
    · exact Try.underlying57
    · exact Try.underlying58
    · exact Try.underlying59
    · exact Try.underlying60
    · exact Try.underlying61
    · exact Try.underlying63
    · exact Try.underlying64
    · exact Try.underlying67
    · exact Try.underlying163
    · exact Try.underlying164
  fld := by
    intro p hp
    simp only [U, List.mem_cons, List.not_mem_nil, or_false] at hp
    rcases hp with rfl | rfl | rfl | rfl | rfl | rfl | rfl | rfl | rfl | rfl | rfl | rfl | rfl | rfl | rfl | rfl
    · exact ⟨_, _, Try.underlying60, rfl, rfl, rfl, Try.prog.types[58]!, by kernel_rfl, by decide +kernel⟩
    · exact ⟨_, _, Try.underlying60, rfl, rfl, rfl, Try.prog.types[59]!, by kernel_rfl, by decide +kernel⟩
    · exact ⟨_, _, Try.underlying61, rfl, rfl, rfl, Try.prog.types[58]!, by kernel_rfl, by decide +kernel⟩
    · exact ⟨_, _, Try.underlying61, rfl, rfl, rfl, Try.prog.types[59]!, by kernel_rfl, by decide +kernel⟩
    · exact ⟨_, _, Try.underlying63, rfl, rfl, rfl, Try.prog.types[24]!, by kernel_rfl, by decide +kernel⟩
    · exact ⟨_, _, Try.underlying63, rfl, rfl, rfl, Try.prog.types[24]!, by kernel_rfl, by decide +kernel⟩
    · exact ⟨_, _, Try.underlying64, rfl, rfl, rfl, Try.prog.types[24]!, by kernel_rfl, by decide +kernel⟩
    · exact ⟨_, _, Try.underlying64, rfl, rfl, rfl, Try.prog.types[24]!, by kernel_rfl, by decide +kernel⟩
    · exact ⟨_, _, Try.underlying163, rfl, rfl, rfl, Try.prog.types[24]!, by kernel_rfl, by decide +kernel⟩
    · exact ⟨_, _, Try.underlying163, rfl, rfl, rfl, Try.prog.types[24]!, by kernel_rfl, by decide +kernel⟩
    · exact ⟨_, _, Try.underlying163, rfl, rfl, rfl, Try.prog.types[24]!, by kernel_rfl, by decide +kernel⟩
    · exact ⟨_, _, Try.underlying163, rfl, rfl, rfl, Try.prog.types[24]!, by kernel_rfl, by decide +kernel⟩
    · exact ⟨_, _, Try.underlying164, rfl, rfl, rfl, Try.prog.types[24]!, by kernel_rfl, by decide +kernel⟩
    · exact ⟨_, _, Try.underlying164, rfl, rfl, rfl, Try.prog.types[24]!, by kernel_rfl, by decide +kernel⟩
    · exact ⟨_, _, Try.underlying164, rfl, rfl, rfl, Try.prog.types[24]!, by kernel_rfl, by decide +kernel⟩
    · exact ⟨_, _, Try.underlying164, rfl, rfl, rfl, Try.prog.types[24]!, by kernel_rfl, by decide +kernel⟩
  sz := by
    intro p hp
    simp only [U, List.mem_cons, List.not_mem_nil, or_false] at hp
    rcases hp with rfl | rfl | rfl | rfl | rfl | rfl | rfl | rfl | rfl | rfl | rfl | rfl | rfl | rfl | rfl | rfl
    · exact ⟨Try.prog.types[3]!, by kernel_rfl, by kernel_rfl⟩
    · exact ⟨Try.prog.types[5]!, by kernel_rfl, by kernel_rfl⟩
    · exact ⟨Try.prog.types[9]!, by kernel_rfl, by kernel_rfl⟩
    · exact ⟨Try.prog.types[24]!, by kernel_rfl, by kernel_rfl⟩
    · exact ⟨Try.prog.types[40]!, by kernel_rfl, by kernel_rfl⟩
    · exact ⟨Try.prog.types[41]!, by kernel_rfl, by kernel_rfl⟩
    · exact ⟨Try.prog.types[57]!, by kernel_rfl, by kernel_rfl⟩
    · exact ⟨Try.prog.types[58]!, by kernel_rfl, by kernel_rfl⟩
    · exact ⟨Try.prog.types[59]!, by kernel_rfl, by kernel_rfl⟩
    · exact ⟨Try.prog.types[60]!, by kernel_rfl, by kernel_rfl⟩
    · exact ⟨Try.prog.types[61]!, by kernel_rfl, by kernel_rfl⟩
    · exact ⟨Try.prog.types[63]!, by kernel_rfl, by kernel_rfl⟩
    · exact ⟨Try.prog.types[64]!, by kernel_rfl, by kernel_rfl⟩
    · exact ⟨Try.prog.types[67]!, by kernel_rfl, by kernel_rfl⟩
    · exact ⟨Try.prog.types[163]!, by kernel_rfl, by kernel_rfl⟩
    · exact ⟨Try.prog.types[164]!, by kernel_rfl, by kernel_rfl⟩
  ti := by
    intro p hp
    simp only [U, List.mem_cons, List.not_mem_nil, or_false] at hp
    rcases hp with rfl | rfl | rfl | rfl | rfl | rfl | rfl | rfl | rfl | rfl | rfl | rfl | rfl | rfl | rfl | rfl
    · exact ⟨Try.prog.types[3]!, by kernel_rfl, by kernel_rfl, by kernel_rfl, by kernel_rfl⟩
    · exact ⟨Try.prog.types[5]!, by kernel_rfl, by kernel_rfl, by kernel_rfl, by kernel_rfl⟩
    · exact ⟨Try.prog.types[9]!, by kernel_rfl, by kernel_rfl, by kernel_rfl, by kernel_rfl⟩
    · exact ⟨Try.prog.types[24]!, by kernel_rfl, by kernel_rfl, by kernel_rfl, by kernel_rfl⟩
    · exact ⟨Try.prog.types[40]!, by kernel_rfl, by kernel_rfl, by kernel_rfl, by kernel_rfl⟩
    · exact ⟨Try.prog.types[41]!, by kernel_rfl, by kernel_rfl, by kernel_rfl, by kernel_rfl⟩
    · exact ⟨Try.prog.types[57]!, by kernel_rfl, by kernel_rfl, by kernel_rfl, by kernel_rfl⟩
    · exact ⟨Try.prog.types[58]!, by kernel_rfl, by kernel_rfl, by kernel_rfl, by kernel_rfl⟩
    · exact ⟨Try.prog.types[59]!, by kernel_rfl, by kernel_rfl, by kernel_rfl, by kernel_rfl⟩
    · exact ⟨Try.prog.types[60]!, by kernel_rfl, by kernel_rfl, by kernel_rfl, by kernel_rfl⟩
    · exact ⟨Try.prog.types[61]!, by kernel_rfl, by kernel_rfl, by kernel_rfl, by kernel_rfl⟩
    · exact ⟨Try.prog.types[63]!, by kernel_rfl, by kernel_rfl, by kernel_rfl, by kernel_rfl⟩
    · exact ⟨Try.prog.types[64]!, by kernel_rfl, by kernel_rfl, by kernel_rfl, by kernel_rfl⟩
    · exact ⟨Try.prog.types[67]!, by kernel_rfl, by kernel_rfl, by kernel_rfl, by kernel_rfl⟩
    · exact ⟨Try.prog.types[163]!, by kernel_rfl, by kernel_rfl, by kernel_rfl, by kernel_rfl⟩
    · exact ⟨Try.prog.types[164]!, by kernel_rfl, by kernel_rfl, by kernel_rfl, by kernel_rfl⟩
  bld := by
    intro p hp
    simp only [U, List.mem_cons, List.not_mem_nil, or_false] at hp
    rcases hp with rfl | rfl | rfl | rfl | rfl | rfl
    · exact ⟨_, Try.underlying60, by kernel_rfl⟩
    · exact ⟨_, Try.underlying61, by kernel_rfl⟩
    · exact ⟨_, Try.underlying63, by kernel_rfl⟩
    · exact ⟨_, Try.underlying64, by kernel_rfl⟩
    · exact ⟨_, Try.underlying163, by kernel_rfl⟩
    · exact ⟨_, Try.underlying164, by kernel_rfl⟩
  mixed := by kernel_rfl

theorem s_Open_spec (bk : Nat) (mv : Value) (BA : Option Addr) (bc : Nat) (nb : Nat) (L : List Bx) (A : Option Addr) (c : Nat) (ks : List Int) (A6 : Option Addr) (c6 : Nat) (cs : List Int) (A4 : Option Addr) (c4 : Nat) (ts : List Int) (l_ks : Nat) (l_cs : Nat) (l_ts : Nat) (hL : RowsOK .u8 (bxR L)) (hLn : L.length = nb) (hLl : nb ≤ 1000000) (hLc : nb ≤ bc) (hLA : 0 < nb → Option.isSome BA = true) (hIks : In .u8 ks) (hCks : ks.length ≤ c) (hBks : ks.length ≤ 1000000) (hIcs : In .u8 cs) (hCcs : cs.length ≤ c6) (hBcs : cs.length ≤ 1000000) (hIts : In .u8 ts) (hCts : ts.length ≤ c4) (hBts : ts.length ≤ 900000) (hk : ks.length = 32) (hl_ks : ks.length = l_ks) (hl_cs : cs.length = l_cs) (hl_ts : ts.length = l_ts) :
    CallsS Try.prog 14 [.iface 57 (pt bk), .slice A l_ks c, .slice A6 l_cs c6, .slice A4 l_ts c4] [blk bk 61 [mv, .slice BA nb bc], row 164 4 (.slice BA nb bc) nb (bxV L), rws .u8 (bxR L), vw A (nums .u8 ks), vw A6 (nums .u8 cs), vw A4 (nums .u8 ts)] (fun r D => ∃ (A9 : Option Addr) (c9 : Nat) (zs : List Int) (e : Int), r = .tuple #[.slice A9 zs.length c9, .int .i64 e] ∧ D = [row 5 1 (.slice A9 zs.length c9) zs.length (nums .u8 zs), blk bk 61 [mv, .slice BA nb bc], row 164 4 (.slice BA nb bc) nb (bxV L), rws .u8 (bxR L)] ∧ (e = (openF (bxM L) ks cs ts).1) ∧ (zs = (openF (bxM L) ks cs ts).2) ∧ (In .u8 zs) ∧ (zs.length ≤ c9) ∧ (0 < zs.length → Option.isSome A9 = true)) := by
  subst hl_ks
  subst hl_cs
  subst hl_ts
  refine CallsS.enter hU Try.f14 _ [.tmp 8, .tmp 9] 64 Try.func14 rfl (by decide) rfl rfl (by kernel_rfl) fun w0 W => ?_
  refine RunC.know (p := 0 < ks.length → Option.isSome A = true) (fun _ _ w hs => vw_some hs 3 rfl (by (simp [nums_length]; done))) (fun hA1 => ?_)
  refine RunC.know (p := 0 < cs.length → Option.isSome A6 = true) (fun _ _ w hs => vw_some hs 4 rfl (by (simp [nums_length]; done))) (fun hA2 => ?_)
  refine RunC.know (p := 0 < ts.length → Option.isSome A4 = true) (fun _ _ w hs => vw_some hs 5 rfl (by (simp [nums_length]; done))) (fun hA3 => ?_)
  refine RunC.sr ?_
  refine RunR.st (some 4) (.box 41 (.tmp 0)) (Step.box (.iface 57 (pt bk)) (by kernel_rfl) (by kernel_rfl) (fun b4 => ?_))
  refine RunR.st (some 5) (.box 24 (.tmp 1)) (Step.box (.slice A ks.length c) (by kernel_rfl) (by kernel_rfl) (fun b5 => ?_))
  refine RunR.sl hU [] 2 4 [2, 3, 4, 5, 8, 9] [(2, .slice A6 cs.length c6), (3, .slice A4 ts.length c4), (4, pt b4), (5, pt b5), (8, .slice none 0 0), (9, .int .i64 0)] 2 ?_
  refine RunR.nn ?_
  refine RunC.seq ?_
  refine RunC.sr ?_
  refine RunR.st (some 13) (.load 24 (.tmp 5)) (Step.load_blk hU 0 b5 (0) 24 [.slice A ks.length c] (.slice A ks.length c) (by kernel_rfl) (by kernel_rfl) (by kernel_rfl) (by kernel_rfl) ?_)
  refine RunR.sl hU [] 2 3 [2, 3, 4, 5, 8, 9, 15] [(2, .slice A6 cs.length c6), (3, .slice A4 ts.length c4), (4, pt b4), (5, pt b5), (8, .slice none 0 0), (9, .int .i64 0), (15, .bool (!decide (((ks.length : Nat) : Int) = 32)))] 2 ?_
  refine RunR.ev [2, 3, 4, 5, 8, 9, 15] [(2, .slice A6 cs.length c6), (3, .slice A4 ts.length c4), (4, pt b4), (5, pt b5), (8, .slice none 0 0), (9, .int .i64 0), (15, .bool (!decide (((ks.length : Nat) : Int) = 32)))] ?_
  have hk6 : (((ks.length : Nat) : Int) = 32) := by omega
  refine RunR.enveq [(2, .slice A6 cs.length c6), (3, .slice A4 ts.length c4), (4, pt b4), (5, pt b5), (8, .slice none 0 0), (9, .int .i64 0), (15, .bool false)] (by rw [decide_eq_true hk6]; try rfl) ?_
  refine RunR.nn ?_
  refine RunC.cond (b := false) (by kernel_rfl) (fun h => by cases h) (fun _ => ?_)
  refine RunC.ks ?_
  refine RunC.seq ?_
  refine RunC.sr ?_
  refine RunR.sl hU [] 4 4 [2, 3, 4, 5, 8, 9, 19] [(2, .slice A6 cs.length c6), (3, .slice A4 ts.length c4), (4, pt b4), (5, pt b5), (8, .slice none 0 0), (9, .int .i64 0), (19, .bool (decide (((ts.length : Nat) : Int) < 12)))] 4 ?_
  refine RunR.ev [2, 3, 4, 5, 8, 9, 19] [(2, .slice A6 cs.length c6), (3, .slice A4 ts.length c4), (4, pt b4), (5, pt b5), (8, .slice none 0 0), (9, .int .i64 0), (19, .bool (decide (((ts.length : Nat) : Int) < 12)))] ?_
  by_cases h7 : ((ts.length : Nat) : Int) < 12
  · skip
    refine RunR.enveq [(2, .slice A6 cs.length c6), (3, .slice A4 ts.length c4), (4, pt b4), (5, pt b5), (8, .slice none 0 0), (9, .int .i64 0), (19, .bool true)] (by rw [decide_eq_true h7]; try rfl) ?_
    refine RunR.sl hU [] 5 9 [2, 3, 4, 5, 8, 9, 24] [(2, .slice A6 cs.length c6), (3, .slice A4 ts.length c4), (4, pt b4), (5, pt b5), (8, .slice none 0 0), (9, .int .i64 0), (24, .bool true)] 1 ?_
    refine RunR.nn ?_
    refine RunC.cond (b := true) (by kernel_rfl) (fun _ => ?_) (fun h => by cases h)
    refine RunC.sr ?_
    refine RunR.sl hU [] 2 2 [2, 3, 4, 5, 8, 9] [(2, .slice A6 cs.length c6), (3, .slice A4 ts.length c4), (4, pt b4), (5, pt b5), (8, .slice none 0 0), (9, .int .i64 8)] 2 ?_
    refine RunR.nn ?_
    refine RunC.ret ?_
    refine kseq_r ?_
    refine kret_rt ([row 5 1 (.slice none 0 0) 0 (nums .u8 ([] : List Int)), blk b5 24 [.slice A ks.length c], blk b4 41 [.iface 57 (pt bk)], blk bk 61 [mv, .slice BA nb bc], row 164 4 (.slice BA nb bc) nb (bxV L), rws .u8 (bxR L), vw A (nums .u8 ks), vw A6 (nums .u8 cs), vw A4 (nums .u8 ts)]) (fun w0 W w hs => (hs).nil_row 5 1) [.slice none 0 0, .int .i64 8] [0, 2, 2, 2] [row 5 1 (.slice none 0 0) 0 (nums .u8 ([] : List Int)), blk bk 61 [mv, .slice BA nb bc], row 164 4 (.slice BA nb bc) nb (bxV L), rws .u8 (bxR L)] ⟨rfl, rfl, trivial⟩ (by kernel_rfl) rfl ⟨none, 0, ([] : List Int), 8, rfl, rfl, (by exact congrArg Prod.fst (of_short hk (Or.inl (by omega)))), (by exact congrArg Prod.snd (of_short hk (Or.inl (by omega)))), (by exact In.nil _), (by exact Nat.le_refl _), (by intro h; simp at h)⟩
  · skip
    refine RunR.enveq [(2, .slice A6 cs.length c6), (3, .slice A4 ts.length c4), (4, pt b4), (5, pt b5), (8, .slice none 0 0), (9, .int .i64 0), (19, .bool false)] (by rw [decide_eq_false h7]; try rfl) ?_
    refine RunR.sil hU [] 2 6 [2, 3, 4, 5, 8, 9, 19, 21] [(2, .slice A6 cs.length c6), (3, .slice A4 ts.length c4), (4, pt b4), (5, pt b5), (8, .slice none 0 0), (9, .int .i64 0), (19, .bool false), (21, .pointer (elemAt A4 0 1))] ((True) ∧ ((0 ≤ (0 : Int) ∧ (0 : Int) < ((ts.length : Nat) : Int)) ∧ Option.isSome A4 = true) ∧ True) rfl (by kernel_rfl) ⟨trivial, ⟨by omega, hA3 (by omega)⟩, trivial⟩ ?_
    refine RunR.st (some 22) (.load 5 (.tmp 21)) (Step.load_num hU 7 (vw A4 (nums .u8 ts)) A4 0 .u8 ts rfl (by kernel_rfl) (by kernel_rfl) (tells_vw _ _) (by kernel_rfl) (by omega) ?_)
    have hb8 : 0 ≤ ts.getD ((0 : Int).toNat) 0 ∧ ts.getD ((0 : Int).toNat) 0 < 256 := hIts.at_ _
    refine RunR.sl hU [] 2 9 [2, 3, 4, 5, 8, 9, 24] [(2, .slice A6 cs.length c6), (3, .slice A4 ts.length c4), (4, pt b4), (5, pt b5), (8, .slice none 0 0), (9, .int .i64 0), (24, .bool (!decide ((ts.getD (0 : Int).toNat 0) = 1)))] 2 ?_
    refine RunR.nn ?_
    refine RunC.condn ((ts.getD (0 : Int).toNat 0) = 1) (by kernel_rfl) (fun h9 => ?_) (fun h9 => ?_)
    · skip
      refine RunC.sr ?_
      refine RunR.sl hU [] 2 2 [2, 3, 4, 5, 8, 9] [(2, .slice A6 cs.length c6), (3, .slice A4 ts.length c4), (4, pt b4), (5, pt b5), (8, .slice none 0 0), (9, .int .i64 8)] 2 ?_
      refine RunR.nn ?_
      refine RunC.ret ?_
      refine kseq_r ?_
      refine kret_rt ([row 5 1 (.slice none 0 0) 0 (nums .u8 ([] : List Int)), blk b5 24 [.slice A ks.length c], blk b4 41 [.iface 57 (pt bk)], blk bk 61 [mv, .slice BA nb bc], row 164 4 (.slice BA nb bc) nb (bxV L), rws .u8 (bxR L), vw A (nums .u8 ks), vw A6 (nums .u8 cs), vw A4 (nums .u8 ts)]) (fun w0 W w hs => (hs).nil_row 5 1) [.slice none 0 0, .int .i64 8] [0, 2, 2, 2] [row 5 1 (.slice none 0 0) 0 (nums .u8 ([] : List Int)), blk bk 61 [mv, .slice BA nb bc], row 164 4 (.slice BA nb bc) nb (bxV L), rws .u8 (bxR L)] ⟨rfl, rfl, trivial⟩ (by kernel_rfl) rfl ⟨none, 0, ([] : List Int), 8, rfl, rfl, (by exact congrArg Prod.fst (of_short hk (Or.inr (by assumption)))), (by exact congrArg Prod.snd (of_short hk (Or.inr (by assumption)))), (by exact In.nil _), (by exact Nat.le_refl _), (by intro h; simp at h)⟩
    · skip
      refine RunC.ksr ?_
      refine RunR.sil hU [] 2 2 [2, 3, 4, 5, 8, 9, 26] [(2, .slice A6 cs.length c6), (3, .slice A4 ts.length c4), (4, pt b4), (5, pt b5), (8, .slice none 0 0), (9, .int .i64 0), (26, .slice A4 12 c4)] ((True) ∧ (0 ≤ (12 : Int) ∧ (12 : Int) ≤ ((c4 : Nat) : Int)) ∧ True) rfl (by kernel_rfl) ⟨trivial, (by omega), trivial⟩ ?_
      obtain ⟨zs10, hz11⟩ : ∃ z : List Int, z = ts.take 12 := ⟨_, rfl⟩
      have hl12 : zs10.length = 12 := by rw [hz11, List.length_take]; omega
      have hB13_t : Tells (vw A4 (nums .u8 ts)) (A4) (nums .u8 zs10) := by rw [hz11]; exact tells_take_nums (tells_vw _ _) _
      refine RunR.ev [2, 3, 4, 5, 8, 9, 26] [(2, .slice A6 cs.length c6), (3, .slice A4 ts.length c4), (4, pt b4), (5, pt b5), (8, .slice none 0 0), (9, .int .i64 0), (26, .slice A4 12 c4)] ?_
      refine RunR.enveq [(2, .slice A6 cs.length c6), (3, .slice A4 ts.length c4), (4, pt b4), (5, pt b5), (8, .slice none 0 0), (9, .int .i64 0), (26, .slice A4 zs10.length c4)] (by rw [hl12]) ?_
      have hr14 : In .u8 zs10 := by rw [hz11]; exact hIts.take _
      refine RunR.sl hU [] 2 4 [3, 4, 5, 8, 9, 28] [(3, .slice A4 ts.length c4), (4, pt b4), (5, pt b5), (8, .slice none 0 0), (9, .int .i64 0), (28, .agg #[.slice A4 zs10.length c4, .slice A6 cs.length c6])] 2 ?_
      refine RunR.st (some 10) (.alloc 64) (Step.al hU 2 48 (.agg #[.slice none 0 0, .slice none 0 0]) (fun b15 => ?_))
      refine RunR.st none (.store 64 (.tmp 10) (.tmp 28)) (Step.store_blk hU 0 b15 0 64 [.slice none 0 0, .slice none 0 0] (.agg #[.slice A4 zs10.length c4, .slice A6 cs.length c6]) (by kernel_rfl) (by kernel_rfl) (by kernel_rfl) 2 rfl [.slice A4 zs10.length c4, .slice A6 cs.length c6] (by kernel_rfl) rfl (by kernel_rfl) (by decide) ?_)
      refine RunR.nn ?_
      refine RunC.seq ?_
      refine RunC.sr ?_
      refine RunR.st (some 29) (.load 64 (.tmp 10)) (Step.load_blk hU 0 b15 (0) 64 [.slice A4 zs10.length c4, .slice A6 cs.length c6] (.agg #[.slice A4 zs10.length c4, .slice A6 cs.length c6]) (by kernel_rfl) (by kernel_rfl) (by kernel_rfl) (by kernel_rfl) ?_)
      refine RunR.st (some 30) (.call { callee := .value (.func 33), args := #[.tmp 29], argTypes := #[64] }) (Step.cl 33 [.agg #[.slice A4 zs10.length c4, .slice A6 cs.length c6]] [] [vw A4 (nums .u8 zs10)] [blk b15 64 [.slice A4 zs10.length c4, .slice A6 cs.length c6], blk b5 24 [.slice A ks.length c], blk b4 41 [.iface 57 (pt bk)], blk bk 61 [mv, .slice BA nb bc], row 164 4 (.slice BA nb bc) nb (bxV L), rws .u8 (bxR L), vw A (nums .u8 ks), vw A6 (nums .u8 cs), vw A4 (nums .u8 ts)] (s_size_spec A4 c4 zs10 A6 c6 cs.length zs10.length hr14 (by omega) (by omega) (by assumption) (by rfl)) [] ((Lend.nil _).tells 8 (vw A4 (nums .u8 ts)) A4 (nums .u8 zs10) (by kernel_rfl) (hB13_t)) ?_)
      rintro _ _ ⟨rfl, rfl, hp16⟩
      refine RunR.st (some 31) (.call { callee := .value (.func 26), args := #[.tmp 30], argTypes := #[3] }) (Step.cn 26 [.int .i64 (szL zs10)] [] [blk b15 64 [.slice A4 zs10.length c4, .slice A6 cs.length c6], blk b5 24 [.slice A ks.length c], blk b4 41 [.iface 57 (pt bk)], blk bk 61 [mv, .slice BA nb bc], row 164 4 (.slice BA nb bc) nb (bxV L), rws .u8 (bxR L), vw A (nums .u8 ks), vw A6 (nums .u8 cs), vw A4 (nums .u8 ts)] (s_maySize_spec (szL zs10) (by (refine ⟨?_, ?_⟩ <;> omega))) [] ?_)
      rintro _ _ ⟨rfl, rfl⟩
      refine RunR.sl hU [] 1 4 [3, 4, 5, 8, 9, 10, 32] [(3, .slice A4 ts.length c4), (4, pt b4), (5, pt b5), (8, .slice none 0 0), (9, .int .i64 0), (10, pt b15), (32, .bool (!decide (1 ≤ (szL zs10) ∧ (szL zs10) ≤ 65536)))] 1 ?_
      refine RunR.nn ?_
      refine RunC.condn (1 ≤ (szL zs10) ∧ (szL zs10) ≤ 65536) (by kernel_rfl) (fun h17 => ?_) (fun h17 => ?_)
      · skip
        refine RunC.sr ?_
        refine RunR.sl hU [] 2 2 [3, 4, 5, 8, 9, 10] [(3, .slice A4 ts.length c4), (4, pt b4), (5, pt b5), (8, .slice none 0 0), (9, .int .i64 8), (10, pt b15)] 2 ?_
        refine RunR.nn ?_
        refine RunC.ret ?_
        refine kseq_r ?_
        refine kret_rt ([row 5 1 (.slice none 0 0) 0 (nums .u8 ([] : List Int)), blk b15 64 [.slice A4 zs10.length c4, .slice A6 cs.length c6], blk b5 24 [.slice A ks.length c], blk b4 41 [.iface 57 (pt bk)], blk bk 61 [mv, .slice BA nb bc], row 164 4 (.slice BA nb bc) nb (bxV L), rws .u8 (bxR L), vw A (nums .u8 ks), vw A6 (nums .u8 cs), vw A4 (nums .u8 ts)]) (fun w0 W w hs => (hs).nil_row 5 1) [.slice none 0 0, .int .i64 8] [0, 3, 3, 3] [row 5 1 (.slice none 0 0) 0 (nums .u8 ([] : List Int)), blk bk 61 [mv, .slice BA nb bc], row 164 4 (.slice BA nb bc) nb (bxV L), rws .u8 (bxR L)] ⟨rfl, rfl, trivial⟩ (by kernel_rfl) rfl ⟨none, 0, ([] : List Int), 8, rfl, rfl, (by exact congrArg Prod.fst (of_size hk (fun g_ => by rcases g_ with g_ | g_ <;> first | omega | exact g_ (by assumption)) hz11 (by assumption))), (by exact congrArg Prod.snd (of_size hk (fun g_ => by rcases g_ with g_ | g_ <;> first | omega | exact g_ (by assumption)) hz11 (by assumption))), (by exact In.nil _), (by exact Nat.le_refl _), (by intro h; simp at h)⟩
      · skip
        refine RunC.ks ?_
        refine RunC.seq ?_
        refine RunC.regionU hU 7 [blk b15 64 [.slice A4 zs10.length c4, .slice A6 cs.length c6]] [0] [3, 5, 6] (bm 7 0) (by kernel_rfl) (by kernel_rfl) (by kernel_rfl) ?_
        refine RunU.sl hU 0 (bm 7 1) 33 (.slice A4 ts.length c4) ?_
        refine RunU.sil hU false 1 (bm 7 3) 34 (.slice (subBase A4 12 c4 1) (ts.length - 12) (c4 - 12)) (0 ≤ (12 : Int) ∧ (12 : Int) ≤ ((ts.length : Nat) : Int)) (by kernel_rfl) (by omega) (by kernel_rfl) (by kernel_rfl) (fun _ _ _ h => h) ?_
        obtain ⟨zs18, hz19⟩ : ∃ z : List Int, z = (ts.drop 12).take (ts.length - 12) := ⟨_, rfl⟩
        have hl20 : zs18.length = ts.length - 12 := by rw [hz19, List.length_take, List.length_drop]; omega
        have hB22_t : Tells (vw A4 (nums .u8 ts)) (subBase A4 12 c4 1) (nums .u8 zs18) := by rw [hz19]; exact tells_sub_nums (tells_vw _ _) _ _ _ (by omega) (by omega)
        have hA23 : 0 < zs18.length → Option.isSome (subBase A4 12 c4 1) = true := fun h => part_some (hA3 (by omega)) _ _ _
        refine RunU.ev [3, 4, 5, 8, 9, 10, 32, 33, 34] [(3, .slice A4 ts.length c4), (4, pt b4), (5, pt b5), (8, .slice none 0 0), (9, .int .i64 0), (10, pt b15), (32, .bool (!decide (1 ≤ (szL zs10) ∧ (szL zs10) ≤ 65536))), (33, .slice A4 ts.length c4), (34, .slice (subBase A4 12 c4 1) (ts.length - 12) (c4 - 12))] ?_
        refine RunU.enveq [(3, .slice A4 ts.length c4), (4, pt b4), (5, pt b5), (8, .slice none 0 0), (9, .int .i64 0), (10, pt b15), (32, .bool (!decide (1 ≤ (szL zs10) ∧ (szL zs10) ≤ 65536))), (33, .slice A4 ts.length c4), (34, .slice (subBase A4 12 c4 1) zs18.length (c4 - 12))] (by rw [hl20]) ?_
        have hr24 : In .u8 zs18 := by rw [hz19]; exact (hIts.drop _).take _
        refine RunU.rd 2 (bm 7 7) 35 (.load 64 (.tmp 10)) (.agg #[.slice A4 zs10.length c4, .slice A6 cs.length c6]) [0] (Reads.load_blk hU 0 b15 (0) 64 [.slice A4 zs10.length c4, .slice A6 cs.length c6] (.agg #[.slice A4 zs10.length c4, .slice A6 cs.length c6]) (by kernel_rfl) (by kernel_rfl) (by kernel_rfl)) ?_
        refine RunU.on (some 36) (.call { callee := .value (.func 33), args := #[.tmp 35], argTypes := #[64] }) 3 (bm 7 15) [] (Step.cl 33 [.agg #[.slice A4 zs10.length c4, .slice A6 cs.length c6]] [] [vw A4 (nums .u8 zs10)] [blk b15 64 [.slice A4 zs10.length c4, .slice A6 cs.length c6], blk b5 24 [.slice A ks.length c], blk b4 41 [.iface 57 (pt bk)], blk bk 61 [mv, .slice BA nb bc], row 164 4 (.slice BA nb bc) nb (bxV L), rws .u8 (bxR L), vw A (nums .u8 ks), vw A6 (nums .u8 cs), vw A4 (nums .u8 ts)] (s_size_spec A4 c4 zs10 A6 c6 cs.length zs10.length hr14 (by omega) (by omega) (by assumption) (by rfl)) [] ((Lend.nil _).tells 8 (vw A4 (nums .u8 ts)) A4 (nums .u8 zs10) (by kernel_rfl) (hB13_t)) ?_)
        rintro _ _ ⟨rfl, rfl, hp25⟩
        refine orR ?_
        refine RunU.sil hU true 4 (bm 7 31) 37 (.int .i64 ((szL zs10) + 16)) (-9223372036854775808 ≤ ((szL zs10) + 16) ∧ ((szL zs10) + 16) < 9223372036854775808) (by kernel_rfl) (by omega) (by kernel_rfl) (by kernel_rfl) (fun _ _ _ h => h) ?_
        refine RunU.on (some 38) (.call { callee := .value (.func 29), args := #[.tmp 34, .tmp 37], argTypes := #[24, 3] }) 5 (bm 7 63) [] (Step.cl 29 [.slice (subBase A4 12 c4 1) zs18.length (c4 - 12), .int .i64 ((szL zs10) + 16)] [] [vw (subBase A4 12 c4 1) (nums .u8 zs18)] [blk b15 64 [.slice A4 zs10.length c4, .slice A6 cs.length c6], blk b5 24 [.slice A ks.length c], blk b4 41 [.iface 57 (pt bk)], blk bk 61 [mv, .slice BA nb bc], row 164 4 (.slice BA nb bc) nb (bxV L), rws .u8 (bxR L), vw A (nums .u8 ks), vw A6 (nums .u8 cs), vw A4 (nums .u8 ts)] (s_pieces_spec (subBase A4 12 c4 1) (c4 - 12) zs18 ((szL zs10) + 16) zs18.length hr24 (by omega) (by omega) (by omega) (by omega) (by rfl)) [] ((Lend.nil _).tells 8 (vw A4 (nums .u8 ts)) (subBase A4 12 c4 1) (nums .u8 zs18) (by kernel_rfl) (hB22_t)) ?_)
        rintro _ _ ⟨B26, d27, rs28, rfl, rfl, hp29, hp30, hp31, hp32⟩
        have hq33a := hp29.len; have hq33b := hp29.cat (by omega); have hq33c := congrArg List.length hq33b; have hq33d := Nat.le_trans (Nat.le_of_eq hq33a) (pcL_le _ _); have hq33f := Nat.lt_of_lt_of_eq (pcL_pos (by omega) _) (Eq.symm hq33a)
        refine orR ?_
        refine RunU.sl hU 6 (bm 7 127) 11 (.slice B26 rs28.length d27) ?_
        refine RunU.ev [4, 5, 8, 9, 10, 11] [(4, pt b4), (5, pt b5), (8, .slice none 0 0), (9, .int .i64 0), (10, pt b15), (11, .slice B26 rs28.length d27)] ?_
        refine RunU.dn ?_
        refine kseq_n ?_
        refine RunC.seq ?_
        refine RunC.sr ?_
        refine RunR.sil hU [3] 5 5 [4, 5, 8, 9, 10, 11, 43] [(4, pt b4), (5, pt b5), (8, .slice none 0 0), (9, .int .i64 0), (10, pt b15), (11, .slice B26 rs28.length d27), (43, .pointer (elemAt B26 (((rs28.length : Nat) : Int) - 1) 1))] ((True) ∧ (True) ∧ (True) ∧ (-9223372036854775808 ≤ (((rs28.length : Nat) : Int) - 1) ∧ (((rs28.length : Nat) : Int) - 1) < 9223372036854775808) ∧ ((0 ≤ (((rs28.length : Nat) : Int) - 1) ∧ (((rs28.length : Nat) : Int) - 1) < ((rs28.length : Nat) : Int)) ∧ Option.isSome B26 = true) ∧ True) rfl (by kernel_rfl) ⟨trivial, trivial, trivial, (by omega), ⟨by omega, hp31 (by omega)⟩, trivial⟩ ?_
        obtain ⟨Ae34, ce35, xe36, hg37, hr38, hc39, hl40⟩ := row_at (by assumption : RowsOK .u8 rs28) (i := (((rs28.length : Nat) : Int) - 1).toNat) (by omega)
        refine RunR.st (some 44) (.load 24 (.tmp 43)) (Step.load_of hU 0 (row 24 1 (.slice B26 rs28.length d27) rs28.length (rowsV rs28)) B26 (((rs28.length : Nat) : Int) - 1) 1 (rowsV rs28) (.slice Ae34 xe36.length ce35) (by kernel_rfl) (by kernel_rfl) (tells_row _ _ _ _ _ _) (loadv_row (by kernel_rfl) hg37 (Nat.mul_one _)) (by kernel_rfl) (by rw [rowsV_len]; omega) ?_)
        refine RunR.sl hU [] 2 8 [4, 5, 8, 9, 10, 11, 12] [(4, pt b4), (5, pt b5), (8, .slice none 0 0), (9, .int .i64 0), (10, pt b15), (11, .slice B26 rs28.length d27), (12, .int .i64 ((xe36.length : Nat) : Int))] 2 ?_
        refine RunR.nx ?_
        refine RunR.sl hU [] 3 3 [4, 5, 8, 9, 10, 11, 12, 48] [(4, pt b4), (5, pt b5), (8, .slice none 0 0), (9, .int .i64 0), (10, pt b15), (11, .slice B26 rs28.length d27), (12, .int .i64 ((xe36.length : Nat) : Int)), (48, .bool (decide (((xe36.length : Nat) : Int) < 16)))] 3 ?_
        refine RunR.ev [4, 5, 8, 9, 10, 11, 12, 48] [(4, pt b4), (5, pt b5), (8, .slice none 0 0), (9, .int .i64 0), (10, pt b15), (11, .slice B26 rs28.length d27), (12, .int .i64 ((xe36.length : Nat) : Int)), (48, .bool (decide (((xe36.length : Nat) : Int) < 16)))] ?_
        by_cases h41 : ((xe36.length : Nat) : Int) < 16
        · skip
          refine RunR.enveq [(4, pt b4), (5, pt b5), (8, .slice none 0 0), (9, .int .i64 0), (10, pt b15), (11, .slice B26 rs28.length d27), (12, .int .i64 ((xe36.length : Nat) : Int)), (48, .bool true)] (by rw [decide_eq_true h41]; try rfl) ?_
          refine RunR.sl hU [] 8 11 [4, 5, 8, 9, 10, 11, 56] [(4, pt b4), (5, pt b5), (8, .slice none 0 0), (9, .int .i64 0), (10, pt b15), (11, .slice B26 rs28.length d27), (56, .bool true)] 1 ?_
          refine RunR.nn ?_
          refine RunC.cond (b := true) (by kernel_rfl) (fun _ => ?_) (fun h => by cases h)
          refine RunC.sr ?_
          refine RunR.sl hU [] 2 2 [4, 5, 8, 9, 10, 11] [(4, pt b4), (5, pt b5), (8, .slice none 0 0), (9, .int .i64 8), (10, pt b15), (11, .slice B26 rs28.length d27)] 2 ?_
          refine RunR.nn ?_
          refine RunC.ret ?_
          refine kseq_r ?_
          refine kret_rt ([row 5 1 (.slice none 0 0) 0 (nums .u8 ([] : List Int)), row 24 1 (.slice B26 rs28.length d27) rs28.length (rowsV rs28), blk b15 64 [.slice A4 zs10.length c4, .slice A6 cs.length c6], blk b5 24 [.slice A ks.length c], blk b4 41 [.iface 57 (pt bk)], blk bk 61 [mv, .slice BA nb bc], row 164 4 (.slice BA nb bc) nb (bxV L), rws .u8 (bxR L), vw A (nums .u8 ks), vw A6 (nums .u8 cs), vw A4 (nums .u8 ts)]) (fun w0 W w hs => (hs).nil_row 5 1) [.slice none 0 0, .int .i64 8] [0, 4, 4, 4] [row 5 1 (.slice none 0 0) 0 (nums .u8 ([] : List Int)), blk bk 61 [mv, .slice BA nb bc], row 164 4 (.slice BA nb bc) nb (bxV L), rws .u8 (bxR L)] ⟨rfl, rfl, trivial⟩ (by kernel_rfl) rfl ⟨none, 0, ([] : List Int), 8, rfl, rfl, (by exact congrArg Prod.fst (of_last hk (fun g_ => by rcases g_ with g_ | g_ <;> first | omega | exact g_ (by assumption)) hz11 (show _ = ts.drop 12 from by rw [hz19]; exact List.take_of_length_le (by simp)) rfl (by assumption) hp29 hg37 rfl (Or.inl (by omega)))), (by exact congrArg Prod.snd (of_last hk (fun g_ => by rcases g_ with g_ | g_ <;> first | omega | exact g_ (by assumption)) hz11 (show _ = ts.drop 12 from by rw [hz19]; exact List.take_of_length_le (by simp)) rfl (by assumption) hp29 hg37 rfl (Or.inl (by omega)))), (by exact In.nil _), (by exact Nat.le_refl _), (by intro h; simp at h)⟩
        · skip
          refine RunR.enveq [(4, pt b4), (5, pt b5), (8, .slice none 0 0), (9, .int .i64 0), (10, pt b15), (11, .slice B26 rs28.length d27), (12, .int .i64 ((xe36.length : Nat) : Int)), (48, .bool false)] (by rw [decide_eq_false h41]; try rfl) ?_
          refine RunR.sl hU [] 3 6 [4, 5, 8, 9, 10, 11, 48, 51] [(4, pt b4), (5, pt b5), (8, .slice none 0 0), (9, .int .i64 0), (10, pt b15), (11, .slice B26 rs28.length d27), (48, .bool false), (51, .bool (decide (((xe36.length : Nat) : Int) = 16)))] 3 ?_
          refine RunR.ev [4, 5, 8, 9, 10, 11, 48, 51] [(4, pt b4), (5, pt b5), (8, .slice none 0 0), (9, .int .i64 0), (10, pt b15), (11, .slice B26 rs28.length d27), (48, .bool false), (51, .bool (decide (((xe36.length : Nat) : Int) = 16)))] ?_
          by_cases h42 : ((xe36.length : Nat) : Int) = 16
          · skip
            refine RunR.enveq [(4, pt b4), (5, pt b5), (8, .slice none 0 0), (9, .int .i64 0), (10, pt b15), (11, .slice B26 rs28.length d27), (48, .bool false), (51, .bool true)] (by rw [decide_eq_true h42]; try rfl) ?_
            refine RunR.sl hU [] 5 11 [4, 5, 8, 9, 10, 11, 56] [(4, pt b4), (5, pt b5), (8, .slice none 0 0), (9, .int .i64 0), (10, pt b15), (11, .slice B26 rs28.length d27), (56, .bool (decide (((rs28.length : Nat) : Int) > 1)))] 5 ?_
            refine RunR.nn ?_
            refine RunC.condp (((rs28.length : Nat) : Int) > 1) (by kernel_rfl) (fun h43 => ?_) (fun h43 => ?_)
            · skip
              refine RunC.sr ?_
              refine RunR.sl hU [] 2 2 [4, 5, 8, 9, 10, 11] [(4, pt b4), (5, pt b5), (8, .slice none 0 0), (9, .int .i64 8), (10, pt b15), (11, .slice B26 rs28.length d27)] 2 ?_
              refine RunR.nn ?_
              refine RunC.ret ?_
              refine kseq_r ?_
              refine kret_rt ([row 5 1 (.slice none 0 0) 0 (nums .u8 ([] : List Int)), row 24 1 (.slice B26 rs28.length d27) rs28.length (rowsV rs28), blk b15 64 [.slice A4 zs10.length c4, .slice A6 cs.length c6], blk b5 24 [.slice A ks.length c], blk b4 41 [.iface 57 (pt bk)], blk bk 61 [mv, .slice BA nb bc], row 164 4 (.slice BA nb bc) nb (bxV L), rws .u8 (bxR L), vw A (nums .u8 ks), vw A6 (nums .u8 cs), vw A4 (nums .u8 ts)]) (fun w0 W w hs => (hs).nil_row 5 1) [.slice none 0 0, .int .i64 8] [0, 4, 4, 4] [row 5 1 (.slice none 0 0) 0 (nums .u8 ([] : List Int)), blk bk 61 [mv, .slice BA nb bc], row 164 4 (.slice BA nb bc) nb (bxV L), rws .u8 (bxR L)] ⟨rfl, rfl, trivial⟩ (by kernel_rfl) rfl ⟨none, 0, ([] : List Int), 8, rfl, rfl, (by exact congrArg Prod.fst (of_last hk (fun g_ => by rcases g_ with g_ | g_ <;> first | omega | exact g_ (by assumption)) hz11 (show _ = ts.drop 12 from by rw [hz19]; exact List.take_of_length_le (by simp)) rfl (by assumption) hp29 hg37 rfl (Or.inr ⟨by omega, by omega⟩))), (by exact congrArg Prod.snd (of_last hk (fun g_ => by rcases g_ with g_ | g_ <;> first | omega | exact g_ (by assumption)) hz11 (show _ = ts.drop 12 from by rw [hz19]; exact List.take_of_length_le (by simp)) rfl (by assumption) hp29 hg37 rfl (Or.inr ⟨by omega, by omega⟩))), (by exact In.nil _), (by exact Nat.le_refl _), (by intro h; simp at h)⟩
            · skip
              refine RunC.ksr ?_
              refine RunR.sl hU [] 1 1 [4, 5, 8, 9, 10, 57] [(4, pt b4), (5, pt b5), (8, .slice none 0 0), (9, .int .i64 0), (10, pt b15), (57, .slice B26 rs28.length d27)] 1 ?_
              refine RunR.st (some 58) (.load 64 (.tmp 10)) (Step.load_blk hU 1 b15 (0) 64 [.slice A4 zs10.length c4, .slice A6 cs.length c6] (.agg #[.slice A4 zs10.length c4, .slice A6 cs.length c6]) (by kernel_rfl) (by kernel_rfl) (by kernel_rfl) (by kernel_rfl) ?_)
              refine RunR.sl hU [] 2 4 [8, 9, 57, 59, 60] [(8, .slice none 0 0), (9, .int .i64 0), (57, .slice B26 rs28.length d27), (59, .func (.func 30) #[.agg #[.slice A4 zs10.length c4, .slice A6 cs.length c6]] #[]), (60, .func (.func 34) #[] #[pt b4, pt b5, pt b15])] 2 ?_
              refine RunR.st (some 61) (.call { callee := .value (.func 28), args := #[.tmp 57, .tmp 59, .tmp 60], argTypes := #[67, 69, 49] }) (Step.cl 28 [.slice B26 rs28.length d27, .func (.func 30) #[.agg #[.slice A4 zs10.length c4, .slice A6 cs.length c6]] #[], .func (.func 34) #[] #[pt b4, pt b5, pt b15]] [blk b4 41 [.iface 57 (pt bk)], blk b5 24 [.slice A ks.length c], blk b15 64 [.slice A4 zs10.length c4, .slice A6 cs.length c6], blk bk 61 [mv, .slice BA nb bc], row 164 4 (.slice BA nb bc) nb (bxV L), rws .u8 (bxR L)] [vw B26 (rowsV rs28), vws (rowsL .u8 rs28), vw A (nums .u8 ks), vw A4 (nums .u8 zs10), vw A6 (nums .u8 cs)] [row 24 1 (.slice B26 rs28.length d27) rs28.length (rowsV rs28), vw A (nums .u8 ks), vw A6 (nums .u8 cs), vw A4 (nums .u8 ts)] (s_eachO_spec b4 b5 b15 bk mv BA bc nb L A c ks A4 c4 zs10 A6 c6 cs B26 d27 rs28 (subBase A4 12 c4 1) zs18 (((szL zs10) + 16).toNat) rs28.length (by assumption) hIks (by assumption) (by assumption) hr14 (by omega) (by omega) hIcs (by assumption) (by assumption) (by assumption) (by assumption) (fun h => hp31 (by exact h)) (by assumption) (by assumption) (by omega) (by omega) (by assumption) (by assumption) (by assumption) (by assumption) (fun h => hLA (by exact h)) (by rfl)) [3, 2, 1, 1, 1, 1] ((((((Lend.nil _).tells 2 (vw A6 (nums .u8 cs)) A6 (nums .u8 cs) (by kernel_rfl) (tells_vw _ _)).tells 3 (vw A4 (nums .u8 ts)) A4 (nums .u8 zs10) (by kernel_rfl) (hB13_t)).tells 1 (vw A (nums .u8 ks)) A (nums .u8 ks) (by kernel_rfl) (tells_vw _ _)).many 3 (vw A4 (nums .u8 ts)) rs28 (by kernel_rfl) (by rw [show _ = _ from hp29]; exact pcs_tells (hB22_t))).tells 0 (row 24 1 (.slice B26 rs28.length d27) rs28.length (rowsV rs28)) B26 (rowsV rs28) (by kernel_rfl) (tells_row _ _ _ _ _ _)) ?_)
              rintro _ _ ⟨A944, c945, zs46, e47, rfl, rfl, hp48, hp49, hp50, hp51, hp52⟩
              refine RunR.sl hU [] 4 9 [8, 9] [(8, .slice A944 zs46.length c945), (9, .int .i64 e47)] 4 ?_
              refine RunR.nn ?_
              refine RunC.ret ?_
              refine kret_r [.slice A944 zs46.length c945, .int .i64 e47] [0, 3, 3, 3] [row 5 1 (.slice A944 zs46.length c945) zs46.length (nums .u8 zs46), blk bk 61 [mv, .slice BA nb bc], row 164 4 (.slice BA nb bc) nb (bxV L), rws .u8 (bxR L)] ⟨rfl, rfl, trivial⟩ (by kernel_rfl) rfl ⟨A944, c945, zs46, e47, rfl, rfl, (by exact Eq.trans hp48 (congrArg Prod.fst (of_go hk (fun g_ => by rcases g_ with g_ | g_ <;> first | omega | exact g_ (by assumption)) hz11 (show _ = ts.drop 12 from by rw [hz19]; exact List.take_of_length_le (by simp)) rfl (by assumption) hp29 hg37 rfl (by omega)))), (by exact Eq.trans hp49 (congrArg Prod.snd (of_go hk (fun g_ => by rcases g_ with g_ | g_ <;> first | omega | exact g_ (by assumption)) hz11 (show _ = ts.drop 12 from by rw [hz19]; exact List.take_of_length_le (by simp)) rfl (by assumption) hp29 hg37 rfl (by omega)))), hp50, (by assumption), (fun h => hp52 (by exact h))⟩
          · skip
            refine RunR.enveq [(4, pt b4), (5, pt b5), (8, .slice none 0 0), (9, .int .i64 0), (10, pt b15), (11, .slice B26 rs28.length d27), (48, .bool false), (51, .bool false)] (by rw [decide_eq_false h42]; try rfl) ?_
            refine RunR.sl hU [] 5 11 [4, 5, 8, 9, 10, 11, 56] [(4, pt b4), (5, pt b5), (8, .slice none 0 0), (9, .int .i64 0), (10, pt b15), (11, .slice B26 rs28.length d27), (56, .bool false)] 2 ?_
            refine RunR.nn ?_
            refine RunC.cond (b := false) (by kernel_rfl) (fun h => by cases h) (fun _ => ?_)
            refine RunC.ksr ?_
            refine RunR.sl hU [] 1 1 [4, 5, 8, 9, 10, 57] [(4, pt b4), (5, pt b5), (8, .slice none 0 0), (9, .int .i64 0), (10, pt b15), (57, .slice B26 rs28.length d27)] 1 ?_
            refine RunR.st (some 58) (.load 64 (.tmp 10)) (Step.load_blk hU 1 b15 (0) 64 [.slice A4 zs10.length c4, .slice A6 cs.length c6] (.agg #[.slice A4 zs10.length c4, .slice A6 cs.length c6]) (by kernel_rfl) (by kernel_rfl) (by kernel_rfl) (by kernel_rfl) ?_)
            refine RunR.sl hU [] 2 4 [8, 9, 57, 59, 60] [(8, .slice none 0 0), (9, .int .i64 0), (57, .slice B26 rs28.length d27), (59, .func (.func 30) #[.agg #[.slice A4 zs10.length c4, .slice A6 cs.length c6]] #[]), (60, .func (.func 34) #[] #[pt b4, pt b5, pt b15])] 2 ?_
            refine RunR.st (some 61) (.call { callee := .value (.func 28), args := #[.tmp 57, .tmp 59, .tmp 60], argTypes := #[67, 69, 49] }) (Step.cl 28 [.slice B26 rs28.length d27, .func (.func 30) #[.agg #[.slice A4 zs10.length c4, .slice A6 cs.length c6]] #[], .func (.func 34) #[] #[pt b4, pt b5, pt b15]] [blk b4 41 [.iface 57 (pt bk)], blk b5 24 [.slice A ks.length c], blk b15 64 [.slice A4 zs10.length c4, .slice A6 cs.length c6], blk bk 61 [mv, .slice BA nb bc], row 164 4 (.slice BA nb bc) nb (bxV L), rws .u8 (bxR L)] [vw B26 (rowsV rs28), vws (rowsL .u8 rs28), vw A (nums .u8 ks), vw A4 (nums .u8 zs10), vw A6 (nums .u8 cs)] [row 24 1 (.slice B26 rs28.length d27) rs28.length (rowsV rs28), vw A (nums .u8 ks), vw A6 (nums .u8 cs), vw A4 (nums .u8 ts)] (s_eachO_spec b4 b5 b15 bk mv BA bc nb L A c ks A4 c4 zs10 A6 c6 cs B26 d27 rs28 (subBase A4 12 c4 1) zs18 (((szL zs10) + 16).toNat) rs28.length (by assumption) hIks (by assumption) (by assumption) hr14 (by omega) (by omega) hIcs (by assumption) (by assumption) (by assumption) (by assumption) (fun h => hp31 (by exact h)) (by assumption) (by assumption) (by omega) (by omega) (by assumption) (by assumption) (by assumption) (by assumption) (fun h => hLA (by exact h)) (by rfl)) [3, 2, 1, 1, 1, 1] ((((((Lend.nil _).tells 2 (vw A6 (nums .u8 cs)) A6 (nums .u8 cs) (by kernel_rfl) (tells_vw _ _)).tells 3 (vw A4 (nums .u8 ts)) A4 (nums .u8 zs10) (by kernel_rfl) (hB13_t)).tells 1 (vw A (nums .u8 ks)) A (nums .u8 ks) (by kernel_rfl) (tells_vw _ _)).many 3 (vw A4 (nums .u8 ts)) rs28 (by kernel_rfl) (by rw [show _ = _ from hp29]; exact pcs_tells (hB22_t))).tells 0 (row 24 1 (.slice B26 rs28.length d27) rs28.length (rowsV rs28)) B26 (rowsV rs28) (by kernel_rfl) (tells_row _ _ _ _ _ _)) ?_)
            rintro _ _ ⟨A953, c954, zs55, e56, rfl, rfl, hp57, hp58, hp59, hp60, hp61⟩
            refine RunR.sl hU [] 4 9 [8, 9] [(8, .slice A953 zs55.length c954), (9, .int .i64 e56)] 4 ?_
            refine RunR.nn ?_
            refine RunC.ret ?_
            refine kret_r [.slice A953 zs55.length c954, .int .i64 e56] [0, 3, 3, 3] [row 5 1 (.slice A953 zs55.length c954) zs55.length (nums .u8 zs55), blk bk 61 [mv, .slice BA nb bc], row 164 4 (.slice BA nb bc) nb (bxV L), rws .u8 (bxR L)] ⟨rfl, rfl, trivial⟩ (by kernel_rfl) rfl ⟨A953, c954, zs55, e56, rfl, rfl, (by exact Eq.trans hp57 (congrArg Prod.fst (of_go hk (fun g_ => by rcases g_ with g_ | g_ <;> first | omega | exact g_ (by assumption)) hz11 (show _ = ts.drop 12 from by rw [hz19]; exact List.take_of_length_le (by simp)) rfl (by assumption) hp29 hg37 rfl (by omega)))), (by exact Eq.trans hp58 (congrArg Prod.snd (of_go hk (fun g_ => by rcases g_ with g_ | g_ <;> first | omega | exact g_ (by assumption)) hz11 (show _ = ts.drop 12 from by rw [hz19]; exact List.take_of_length_le (by simp)) rfl (by assumption) hp29 hg37 rfl (by omega)))), hp59, (by assumption), (fun h => hp61 (by exact h))⟩

theorem k_Book_spec  :
    CallsS Try.prog 12 [] [] (fun r D => ∃ (bk : Nat) (mv : Value), r = .iface 57 (pt bk) ∧ D = [blk bk 61 [mv, .slice none 0 0], row 164 4 (.slice none 0 0) 0 (bxV ([] : List Bx)), rws .u8 (bxR ([] : List Bx))]) := by
  refine CallsS.enter hU Try.f12 _ [.tmp 0] 5 Try.func12 rfl (by decide) rfl rfl (by kernel_rfl) fun w0 W => ?_
  refine RunC.sr ?_
  refine RunR.sl hU [] 1 1 [0] [(0, .nilIface)] 1 ?_
  refine RunR.nx ?_
  refine RunR.st (some 1) (.makeMap 58 none) (Step.makeMap (by kernel_rfl) (fun m1 => ?_))
  refine RunR.sl hU [] 1 2 [0, 2] [(0, .nilIface), (2, .agg #[.map (some m1), .slice none 0 0])] 1 ?_
  refine RunR.st (some 3) (.box 61 (.tmp 2)) (Step.box (.agg #[.map (some m1), .slice none 0 0]) (by kernel_rfl) (by kernel_rfl) (fun b2 => ?_))
  refine RunR.sl hU [] 2 5 [0] [(0, .iface 57 (pt b2))] 2 ?_
  refine RunR.nn ?_
  refine RunC.ret ?_
  refine kret_rt ([rws .u8 (bxR ([] : List Bx)), row 164 4 (.slice none 0 0) 0 (bxV ([] : List Bx)), blk b2 61 [.map (some m1), .slice none 0 0]]) (fun w0 W w hs => ((hs).nil_row 164 4).rws0 .u8) [.iface 57 (pt b2)] [2, 1, 0] [blk b2 61 [.map (some m1), .slice none 0 0], row 164 4 (.slice none 0 0) 0 (bxV ([] : List Bx)), rws .u8 (bxR ([] : List Bx))] ⟨rfl, trivial⟩ (by kernel_rfl) rfl ⟨b2, (.map (some m1)), rfl, rfl⟩
end Go.Proofs.Ytkehpipialmneaa.S9
