/- What these functions compute: a contract for each, walked through its code. -/
import Derived.Test.YtkehpipialmneaaSLzn
import Derived.Test.YtkehpipialmneaaBPure
import Derived.Test.YtkehpipialmneaaProg
import Derived.Test.YtkehpipialmneaaX1
import Derived.Test.YtkehpipialmneaaX2
import Derived.Test.YtkehpipialmneaaX3
import Derived.Test.YtkehpipialmneaaX4
import Derived.Test.YtkehpipialmneaaX5
import Derived.Test.YtkehpipialmneaaX6
import Derived.Test.YtkehpipialmneaaX7
import Derived.Test.YtkehpipialmneaaX8
import Derived.Test.YtkehpipialmneaaX9
import Derived.Test.YtkehpipialmneaaZ1
import Derived.Test.YtkehpipialmneaaZ2
import Derived.Test.YtkehpipialmneaaS1
import Derived.Test.YtkehpipialmneaaS2
namespace Go.Proofs.Ytkehpipialmneaa.S3
open Go Go.Proofs.Ytkehpipialmneaa.SL Go.Proofs.Ytkehpipialmneaa.SL.W Go.Proofs.Ytkehpipialmneaa.SL.C Go.Proofs.Ytkehpipialmneaa.SL.H Go.Proofs.Ytkehpipialmneaa.SL.M Go.Proofs.Ytkehpipialmneaa.SL.Y Go.Proofs.Ytkehpipialmneaa.SL.A Go.Proofs.Ytkehpipialmneaa.SL.B Go.Proofs.Ytkehpipialmneaa.X1 Go.Proofs.Ytkehpipialmneaa.X2 Go.Proofs.Ytkehpipialmneaa.X3 Go.Proofs.Ytkehpipialmneaa.X4 Go.Proofs.Ytkehpipialmneaa.X5 Go.Proofs.Ytkehpipialmneaa.X6 Go.Proofs.Ytkehpipialmneaa.X7 Go.Proofs.Ytkehpipialmneaa.X8 Go.Proofs.Ytkehpipialmneaa.X9 Go.Proofs.Ytkehpipialmneaa.Z1 Go.Proofs.Ytkehpipialmneaa.Z2 Go.Proofs.Ytkehpipialmneaa.S1 Go.Proofs.Ytkehpipialmneaa.S2
set_option linter.unusedVariables false
set_option linter.unusedSimpArgs false
set_option maxRecDepth 100000
set_option maxHeartbeats 40000000
def U : Tab where
  und := [(3, .int .i64), (5, .int .u8), (9, .string), (24, .slice 5), (58, .map 9 3), (59, .slice 164), (60, .struct #[{ name := "texts", type := 58, offset := 0, embedded := false, tag := "", pkgPath := "orlop/crypt", byteOffset := 0 }, { name := "boxes", type := 59, offset := 1, embedded := false, tag := "", pkgPath := "orlop/crypt", byteOffset := 8 }]), (61, .struct #[{ name := "texts", type := 58, offset := 0, embedded := false, tag := "", pkgPath := "orlop/crypt", byteOffset := 0 }, { name := "boxes", type := 59, offset := 1, embedded := false, tag := "", pkgPath := "orlop/crypt", byteOffset := 8 }]), (73, .int .u64), (163, .struct #[{ name := "key", type := 24, offset := 0, embedded := false, tag := "", pkgPath := "orlop/crypt", byteOffset := 0 }, { name := "nonce", type := 24, offset := 1, embedded := false, tag := "", pkgPath := "orlop/crypt", byteOffset := 24 }, { name := "beside", type := 24, offset := 2, embedded := false, tag := "", pkgPath := "orlop/crypt", byteOffset := 48 }, { name := "text", type := 24, offset := 3, embedded := false, tag := "", pkgPath := "orlop/crypt", byteOffset := 72 }]), (164, .struct #[{ name := "key", type := 24, offset := 0, embedded := false, tag := "", pkgPath := "orlop/crypt", byteOffset := 0 }, { name := "nonce", type := 24, offset := 1, embedded := false, tag := "", pkgPath := "orlop/crypt", byteOffset := 24 }, { name := "beside", type := 24, offset := 2, embedded := false, tag := "", pkgPath := "orlop/crypt", byteOffset := 48 }, { name := "text", type := 24, offset := 3, embedded := false, tag := "", pkgPath := "orlop/crypt", byteOffset := 72 }])]
  fld := [((60, 0), (0, 58)), ((60, 1), (1, 59)), ((61, 0), (0, 58)), ((61, 1), (1, 59)), ((163, 0), (0, 24)), ((163, 1), (1, 24)), ((163, 2), (2, 24)), ((163, 3), (3, 24)), ((164, 0), (0, 24)), ((164, 1), (1, 24)), ((164, 2), (2, 24)), ((164, 3), (3, 24))]
  sz := [(3, 1), (5, 1), (9, 1), (24, 1), (58, 1), (59, 1), (60, 2), (61, 2), (73, 1), (163, 4), (164, 4)]
  ti := [(3, (1, 8, .int .i64 0)), (5, (1, 1, .int .u8 0)), (9, (1, 16, .string ⟨#[]⟩)), (24, (1, 24, .slice none 0 0)), (58, (1, 8, .map none)), (59, (1, 24, .slice none 0 0)), (60, (2, 32, .agg #[.map none, .slice none 0 0])), (61, (2, 32, .agg #[.map none, .slice none 0 0])), (73, (1, 8, .int .u64 0)), (163, (4, 96, .agg #[.slice none 0 0, .slice none 0 0, .slice none 0 0, .slice none 0 0])), (164, (4, 96, .agg #[.slice none 0 0, .slice none 0 0, .slice none 0 0, .slice none 0 0]))]
  bld := [(60, [(0, 1), (1, 1)]), (61, [(0, 1), (1, 1)]), (163, [(0, 1), (1, 1), (2, 1), (3, 1)]), (164, [(0, 1), (1, 1), (2, 1), (3, 1)])]

theorem hU : U.OK Try.prog where
  und := by
    intro p hp
    simp only [U, List.mem_cons, List.not_mem_nil, or_false] at hp
    rcases hp with rfl | rfl | rfl | rfl | rfl | rfl | rfl | rfl | rfl | rfl | rfl
    · exact Try.underlying3
    · exact Try.underlying5
    · exact Try.underlying9
    · exact Try.underlying24
    · exact Try.underlying58
    · exact Try.underlying59
    · exact Try.underlying60
    · exact Try.underlying61
    · exact Try.underlying73
    · exact Try.underlying163
    · exact Try.underlying164
  fld := by
    intro p hp
    simp only [U, List.mem_cons, List.not_mem_nil, or_false] at hp
    rcases hp with rfl | rfl | rfl | rfl | rfl | rfl | rfl | rfl | rfl | rfl | rfl | rfl
    · exact ⟨_, _, Try.underlying60, rfl, rfl, rfl, Try.prog.types[58]!, by kernel_rfl, by decide +kernel⟩
    · exact ⟨_, _, Try.underlying60, rfl, rfl, rfl, Try.prog.types[59]!, by kernel_rfl, by decide +kernel⟩
    · exact ⟨_, _, Try.underlying61, rfl, rfl, rfl, Try.prog.types[58]!, by kernel_rfl, by decide +kernel⟩
    · exact ⟨_, _, Try.underlying61, rfl, rfl, rfl, Try.prog.types[59]!, by kernel_rfl, by decide +kernel⟩
    · exact ⟨_, _, Try.underlying163, rfl, rfl, rfl, Try.prog.types[24]!, by kernel_rfl, by decide +kernel⟩
    · exact ⟨_, _, Try.underlying163, rfl, rfl, rfl, Try.prog.types[24]!, by kernel_rfl, by decide +kernel⟩
    · exact ⟨_, _, Try.underlying163, rfl, rfl, rfl, Try.prog.types[24]!, by kernel_rfl, by decide +kernel⟩
    · exact ⟨_, _, Try.underlying163, rfl, rfl, rfl, Try.prog.types[24]!, by kernel_rfl, by decide +kernel⟩
    · exact ⟨_, _, Try.underlying164, rfl, rfl, rfl, Try.prog.types[24]!, by kernel_rfl, by decide +kernel⟩
    · exact ⟨_, _, Try.underlying164, rfl, rfl, rfl, Try.prog.types[24]!, by kernel_rfl, by decide +kernel⟩
    · exact ⟨_, _, Try.underlying164, rfl, rfl, rfl, Try.prog.types[24]!, by kernel_rfl, by decide +kernel⟩
    · exact ⟨_, _, Try.underlying164, rfl, rfl, rfl, Try.prog.types[24]!, by kernel_rfl, by decide +kernel⟩
  sz := by
    intro p hp
    simp only [U, List.mem_cons, List.not_mem_nil, or_false] at hp
    rcases hp with rfl | rfl | rfl | rfl | rfl | rfl | rfl | rfl | rfl | rfl | rfl
    · exact ⟨Try.prog.types[3]!, by kernel_rfl, by kernel_rfl⟩
    · exact ⟨Try.prog.types[5]!, by kernel_rfl, by kernel_rfl⟩
    · exact ⟨Try.prog.types[9]!, by kernel_rfl, by kernel_rfl⟩
    · exact ⟨Try.prog.types[24]!, by kernel_rfl, by kernel_rfl⟩
    · exact ⟨Try.prog.types[58]!, by kernel_rfl, by kernel_rfl⟩
    · exact ⟨Try.prog.types[59]!, by kernel_rfl, by kernel_rfl⟩
    · exact ⟨Try.prog.types[60]!, by kernel_rfl, by kernel_rfl⟩
    · exact ⟨Try.prog.types[61]!, by kernel_rfl, by kernel_rfl⟩
    · exact ⟨Try.prog.types[73]!, by kernel_rfl, by kernel_rfl⟩
    · exact ⟨Try.prog.types[163]!, by kernel_rfl, by kernel_rfl⟩
    · exact ⟨Try.prog.types[164]!, by kernel_rfl, by kernel_rfl⟩
  ti := by
    intro p hp
    simp only [U, List.mem_cons, List.not_mem_nil, or_false] at hp
    rcases hp with rfl | rfl | rfl | rfl | rfl | rfl | rfl | rfl | rfl | rfl | rfl
    · exact ⟨Try.prog.types[3]!, by kernel_rfl, by kernel_rfl, by kernel_rfl, by kernel_rfl⟩
    · exact ⟨Try.prog.types[5]!, by kernel_rfl, by kernel_rfl, by kernel_rfl, by kernel_rfl⟩
    · exact ⟨Try.prog.types[9]!, by kernel_rfl, by kernel_rfl, by kernel_rfl, by kernel_rfl⟩
    · exact ⟨Try.prog.types[24]!, by kernel_rfl, by kernel_rfl, by kernel_rfl, by kernel_rfl⟩
    · exact ⟨Try.prog.types[58]!, by kernel_rfl, by kernel_rfl, by kernel_rfl, by kernel_rfl⟩
    · exact ⟨Try.prog.types[59]!, by kernel_rfl, by kernel_rfl, by kernel_rfl, by kernel_rfl⟩
    · exact ⟨Try.prog.types[60]!, by kernel_rfl, by kernel_rfl, by kernel_rfl, by kernel_rfl⟩
    · exact ⟨Try.prog.types[61]!, by kernel_rfl, by kernel_rfl, by kernel_rfl, by kernel_rfl⟩
    · exact ⟨Try.prog.types[73]!, by kernel_rfl, by kernel_rfl, by kernel_rfl, by kernel_rfl⟩
    · exact ⟨Try.prog.types[163]!, by kernel_rfl, by kernel_rfl, by kernel_rfl, by kernel_rfl⟩
    · exact ⟨Try.prog.types[164]!, by kernel_rfl, by kernel_rfl, by kernel_rfl, by kernel_rfl⟩
  bld := by
    intro p hp
    simp only [U, List.mem_cons, List.not_mem_nil, or_false] at hp
    rcases hp with rfl | rfl | rfl | rfl
    · exact ⟨_, Try.underlying60, by kernel_rfl⟩
    · exact ⟨_, Try.underlying61, by kernel_rfl⟩
    · exact ⟨_, Try.underlying163, by kernel_rfl⟩
    · exact ⟨_, Try.underlying164, by kernel_rfl⟩
  mixed := by kernel_rfl

theorem b_Open_spec (bk : Nat) (mv : Value) (BA : Option Addr) (bc : Nat) (nb : Nat) (L : List Bx) (A : Option Addr) (c : Nat) (ks : List Int) (A2 : Option Addr) (c2 : Nat) (ns : List Int) (A3 : Option Addr) (c3 : Nat) (bs : List Int) (A4 : Option Addr) (c4 : Nat) (ts : List Int) (l_ks : Nat) (l_ns : Nat) (l_bs : Nat) (l_ts : Nat) (hL : RowsOK .u8 (bxR L)) (hLn : L.length = nb) (hLl : nb ≤ 1000000) (hLc : nb ≤ bc) (hLA : 0 < nb → Option.isSome BA = true) (hIks : In .u8 ks) (hCks : ks.length ≤ c) (hBks : ks.length ≤ 17592186044416) (hIns : In .u8 ns) (hCns : ns.length ≤ c2) (hBns : ns.length ≤ 17592186044416) (hIbs : In .u8 bs) (hCbs : bs.length ≤ c3) (hBbs : bs.length ≤ 17592186044416) (hIts : In .u8 ts) (hCts : ts.length ≤ c4) (hBts : ts.length ≤ 17592186044416) (hl_ks : ks.length = l_ks) (hl_ns : ns.length = l_ns) (hl_bs : bs.length = l_bs) (hl_ts : ts.length = l_ts) :
    CallsS Try.prog 117 [pt bk, .slice A l_ks c, .slice A2 l_ns c2, .slice A3 l_bs c3, .slice A4 l_ts c4] [blk bk 61 [mv, .slice BA nb bc], row 164 4 (.slice BA nb bc) nb (bxV L), rws .u8 (bxR L), vw A (nums .u8 ks), vw A2 (nums .u8 ns), vw A3 (nums .u8 bs), vw A4 (nums .u8 ts)] (fun r D => ∃ (A9 : Option Addr) (c9 : Nat) (zs : List Int) (e : Int), r = .tuple #[.slice A9 zs.length c9, .int .i64 e] ∧ D = [row 5 1 (.slice A9 zs.length c9) zs.length (nums .u8 zs), blk bk 61 [mv, .slice BA nb bc], row 164 4 (.slice BA nb bc) nb (bxV L), rws .u8 (bxR L)] ∧ (e = (bopen (bxM L) ks ns bs ts).1) ∧ (zs = (bopen (bxM L) ks ns bs ts).2) ∧ (In .u8 zs) ∧ (zs.length ≤ c9) ∧ (0 < zs.length → Option.isSome A9 = true) ∧ (zs.length ≤ ts.length)) := by
  subst hl_ks
  subst hl_ns
  subst hl_bs
  subst hl_ts
  refine CallsS.enter hU Try.f117 _ [.tmp 10, .tmp 11] 74 Try.func117 rfl (by decide) rfl rfl (by kernel_rfl) fun w0 W => ?_
  refine RunC.know (p := 0 < ks.length → Option.isSome A = true) (fun _ _ w hs => vw_some hs 3 rfl (by (simp [nums_length]; done))) (fun hA1 => ?_)
  refine RunC.know (p := 0 < ns.length → Option.isSome A2 = true) (fun _ _ w hs => vw_some hs 4 rfl (by (simp [nums_length]; done))) (fun hA2 => ?_)
  refine RunC.know (p := 0 < bs.length → Option.isSome A3 = true) (fun _ _ w hs => vw_some hs 5 rfl (by (simp [nums_length]; done))) (fun hA3 => ?_)
  refine RunC.know (p := 0 < ts.length → Option.isSome A4 = true) (fun _ _ w hs => vw_some hs 6 rfl (by (simp [nums_length]; done))) (fun hA4 => ?_)
  refine RunC.sr ?_
  refine RunR.sl hU [] 2 2 [0, 1, 2, 3, 4, 10, 11] [(0, pt bk), (1, .slice A ks.length c), (2, .slice A2 ns.length c2), (3, .slice A3 bs.length c3), (4, .slice A4 ts.length c4), (10, .slice none 0 0), (11, .int .i64 0)] 2 ?_
  refine RunR.nn ?_
  refine RunC.seq ?_
  refine RunC.block ?_
  refine RunC.sr ?_
  refine RunR.sl hU [] 2 2 [0, 1, 2, 3, 4, 10, 11, 15, 16] [(0, pt bk), (1, .slice A ks.length c), (2, .slice A2 ns.length c2), (3, .slice A3 bs.length c3), (4, .slice A4 ts.length c4), (10, .slice none 0 0), (11, .int .i64 0), (15, .slice A ks.length c), (16, .slice A2 ns.length c2)] 2 ?_
  refine RunR.st (some 17) (.call { callee := .value (.func 120), args := #[.tmp 15, .tmp 16], argTypes := #[24, 24] }) (Step.cn 120 [.slice A ks.length c, .slice A2 ns.length c2] [] [blk bk 61 [mv, .slice BA nb bc], row 164 4 (.slice BA nb bc) nb (bxV L), rws .u8 (bxR L), vw A (nums .u8 ks), vw A2 (nums .u8 ns), vw A3 (nums .u8 bs), vw A4 (nums .u8 ts)] (k_may_spec A c ks.length A2 c2 ns.length) [] ?_)
  rintro _ _ ⟨rfl, rfl⟩
  refine RunR.sl hU [] 2 5 [0, 1, 2, 3, 4, 10, 11, 14] [(0, pt bk), (1, .slice A ks.length c), (2, .slice A2 ns.length c2), (3, .slice A3 bs.length c3), (4, .slice A4 ts.length c4), (10, .slice none 0 0), (11, .int .i64 0), (14, .bool (!decide (ks.length = 32 ∧ ns.length = 12)))] 2 ?_
  refine RunR.nn ?_
  refine RunC.condn (ks.length = 32 ∧ ns.length = 12) (by kernel_rfl) (fun h5 => ?_) (fun h5 => ?_)
  · skip
    refine RunC.sr ?_
    refine RunR.sl hU [] 2 2 [0, 1, 2, 3, 4, 10, 11] [(0, pt bk), (1, .slice A ks.length c), (2, .slice A2 ns.length c2), (3, .slice A3 bs.length c3), (4, .slice A4 ts.length c4), (10, .slice none 0 0), (11, .int .i64 1)] 2 ?_
    refine RunR.nn ?_
    refine RunC.ret ?_
    refine kblock_r ?_
    refine kseq_r ?_
    refine kret_rt ([row 5 1 (.slice none 0 0) 0 (nums .u8 ([] : List Int)), blk bk 61 [mv, .slice BA nb bc], row 164 4 (.slice BA nb bc) nb (bxV L), rws .u8 (bxR L), vw A (nums .u8 ks), vw A2 (nums .u8 ns), vw A3 (nums .u8 bs), vw A4 (nums .u8 ts)]) (fun w0 W w hs => (hs).nil_row 5 1) [.slice none 0 0, .int .i64 1] [0, 0, 0, 0] [row 5 1 (.slice none 0 0) 0 (nums .u8 ([] : List Int)), blk bk 61 [mv, .slice BA nb bc], row 164 4 (.slice BA nb bc) nb (bxV L), rws .u8 (bxR L)] ⟨rfl, rfl, trivial⟩ (by kernel_rfl) rfl ⟨none, 0, ([] : List Int), 1, rfl, rfl, (by exact congrArg Prod.fst (bo_1 (by assumption : ¬ (ks.length = 32 ∧ ns.length = 12)))), (by exact congrArg Prod.snd (bo_1 (by assumption : ¬ (ks.length = 32 ∧ ns.length = 12)))), (by exact In.nil _), (by exact Nat.le_refl _), (by intro h; simp at h), (by exact Nat.zero_le _)⟩
  · skip
    refine RunC.sr ?_
    refine RunR.sl hU [] 4 4 [0, 1, 2, 3, 4, 10, 11, 19] [(0, pt bk), (1, .slice A ks.length c), (2, .slice A2 ns.length c2), (3, .slice A3 bs.length c3), (4, .slice A4 ts.length c4), (10, .slice none 0 0), (11, .int .i64 0), (19, .bool (decide (((ts.length : Nat) : Int) < 16)))] 4 ?_
    refine RunR.nn ?_
    refine RunC.condp (((ts.length : Nat) : Int) < 16) (by kernel_rfl) (fun h6 => ?_) (fun h6 => ?_)
    · skip
      refine RunC.sr ?_
      refine RunR.sl hU [] 2 2 [0, 1, 2, 3, 4, 10, 11] [(0, pt bk), (1, .slice A ks.length c), (2, .slice A2 ns.length c2), (3, .slice A3 bs.length c3), (4, .slice A4 ts.length c4), (10, .slice none 0 0), (11, .int .i64 8)] 2 ?_
      refine RunR.nn ?_
      refine RunC.ret ?_
      refine kblock_r ?_
      refine kseq_r ?_
      refine kret_rt ([row 5 1 (.slice none 0 0) 0 (nums .u8 ([] : List Int)), blk bk 61 [mv, .slice BA nb bc], row 164 4 (.slice BA nb bc) nb (bxV L), rws .u8 (bxR L), vw A (nums .u8 ks), vw A2 (nums .u8 ns), vw A3 (nums .u8 bs), vw A4 (nums .u8 ts)]) (fun w0 W w hs => (hs).nil_row 5 1) [.slice none 0 0, .int .i64 8] [0, 0, 0, 0] [row 5 1 (.slice none 0 0) 0 (nums .u8 ([] : List Int)), blk bk 61 [mv, .slice BA nb bc], row 164 4 (.slice BA nb bc) nb (bxV L), rws .u8 (bxR L)] ⟨rfl, rfl, trivial⟩ (by kernel_rfl) rfl ⟨none, 0, ([] : List Int), 8, rfl, rfl, (by exact congrArg Prod.fst (bo_8 (by assumption : ks.length = 32 ∧ ns.length = 12) (by omega))), (by exact congrArg Prod.snd (bo_8 (by assumption : ks.length = 32 ∧ ns.length = 12) (by omega))), (by exact In.nil _), (by exact Nat.le_refl _), (by intro h; simp at h), (by exact Nat.zero_le _)⟩
    · skip
      refine RunC.skip ?_
      refine kblock_n ?_
      refine kseq_n ?_
      refine RunC.sr ?_
      refine RunR.sl hU [] 1 1 [0, 1, 2, 3, 4, 10, 11, 23] [(0, pt bk), (1, .slice A ks.length c), (2, .slice A2 ns.length c2), (3, .slice A3 bs.length c3), (4, .slice A4 ts.length c4), (10, .slice none 0 0), (11, .int .i64 0), (23, .slice A4 ts.length c4)] 1 ?_
      refine RunR.st (some 24) (.call { callee := .value (.func 121), args := #[.tmp 23], argTypes := #[24] }) (Step.cl 121 [.slice A4 ts.length c4] [] [vw A4 (nums .u8 ts)] [blk bk 61 [mv, .slice BA nb bc], row 164 4 (.slice BA nb bc) nb (bxV L), rws .u8 (bxR L), vw A (nums .u8 ks), vw A2 (nums .u8 ns), vw A3 (nums .u8 bs), vw A4 (nums .u8 ts)] (w_GetBig64_spec A4 c4 ts ts.length hIts (by omega) (by rfl)) [] ((Lend.nil _).tells 6 (vw A4 (nums .u8 ts)) A4 (nums .u8 ts) (by kernel_rfl) (tells_vw _ _)) ?_)
      rintro _ _ ⟨rfl, rfl⟩
      have hq7 := beN_bd hIts 8
      refine RunR.sl hU [] 1 3 [0, 1, 2, 3, 4, 10, 11, 12] [(0, pt bk), (1, .slice A ks.length c), (2, .slice A2 ns.length c2), (3, .slice A3 bs.length c3), (4, .slice A4 ts.length c4), (10, .slice none 0 0), (11, .int .i64 0), (12, .int .u64 (beN ts 8))] 1 ?_
      refine RunR.nn ?_
      refine RunC.seq ?_
      refine RunC.sr ?_
      refine RunR.sl hU [] 4 4 [0, 1, 2, 3, 4, 10, 11, 12, 25, 28] [(0, pt bk), (1, .slice A ks.length c), (2, .slice A2 ns.length c2), (3, .slice A3 bs.length c3), (4, .slice A4 ts.length c4), (10, .slice none 0 0), (11, .int .i64 0), (12, .int .u64 (beN ts 8)), (25, .int .u64 (beN ts 8)), (28, .pointer (some ⟨bk, 1, none⟩))] 4 ?_
      refine RunR.st (some 29) (.load 59 (.tmp 28)) (Step.load_blk hU 0 bk (1) 61 [mv, .slice BA nb bc] (.slice BA nb bc) (by kernel_rfl) (by kernel_rfl) (by kernel_rfl) (by kernel_rfl) ?_)
      refine RunR.sil hU [6] 3 8 [0, 1, 2, 3, 4, 10, 11, 12, 32] [(0, pt bk), (1, .slice A ks.length c), (2, .slice A2 ns.length c2), (3, .slice A3 bs.length c3), (4, .slice A4 ts.length c4), (10, .slice none 0 0), (11, .int .i64 0), (12, .int .u64 (beN ts 8)), (32, .bool (decide ((beN ts 8) ≥ ((nb : Nat) : Int))))] ((True) ∧ (0 ≤ ((nb : Nat) : Int) ∧ ((nb : Nat) : Int) < 18446744073709551616) ∧ (True) ∧ True) rfl (by kernel_rfl) ⟨trivial, (by omega), trivial, trivial⟩ ?_
      refine RunR.nn ?_
      refine RunC.condp ((beN ts 8) ≥ ((nb : Nat) : Int)) (by kernel_rfl) (fun h8 => ?_) (fun h8 => ?_)
      · skip
        refine RunC.sr ?_
        refine RunR.sl hU [] 2 2 [0, 1, 2, 3, 4, 10, 11, 12] [(0, pt bk), (1, .slice A ks.length c), (2, .slice A2 ns.length c2), (3, .slice A3 bs.length c3), (4, .slice A4 ts.length c4), (10, .slice none 0 0), (11, .int .i64 7), (12, .int .u64 (beN ts 8))] 2 ?_
        refine RunR.nn ?_
        refine RunC.ret ?_
        refine kseq_r ?_
        refine kret_rt ([row 5 1 (.slice none 0 0) 0 (nums .u8 ([] : List Int)), blk bk 61 [mv, .slice BA nb bc], row 164 4 (.slice BA nb bc) nb (bxV L), rws .u8 (bxR L), vw A (nums .u8 ks), vw A2 (nums .u8 ns), vw A3 (nums .u8 bs), vw A4 (nums .u8 ts)]) (fun w0 W w hs => (hs).nil_row 5 1) [.slice none 0 0, .int .i64 7] [0, 0, 0, 0] [row 5 1 (.slice none 0 0) 0 (nums .u8 ([] : List Int)), blk bk 61 [mv, .slice BA nb bc], row 164 4 (.slice BA nb bc) nb (bxV L), rws .u8 (bxR L)] ⟨rfl, rfl, trivial⟩ (by kernel_rfl) rfl ⟨none, 0, ([] : List Int), 7, rfl, rfl, (by exact congrArg Prod.fst (bo_n (by assumption : ks.length = 32 ∧ ns.length = 12) (by omega) (by rw [bxM_len, hLn]; omega))), (by exact congrArg Prod.snd (bo_n (by assumption : ks.length = 32 ∧ ns.length = 12) (by omega) (by rw [bxM_len, hLn]; omega))), (by exact In.nil _), (by exact Nat.le_refl _), (by intro h; simp at h), (by exact Nat.zero_le _)⟩
      · skip
        refine RunC.ksr ?_
        refine RunR.sl hU [] 3 3 [1, 2, 3, 4, 10, 11, 12, 35] [(1, .slice A ks.length c), (2, .slice A2 ns.length c2), (3, .slice A3 bs.length c3), (4, .slice A4 ts.length c4), (10, .slice none 0 0), (11, .int .i64 0), (12, .int .u64 (beN ts 8)), (35, .pointer (some ⟨bk, 1, none⟩))] 3 ?_
        refine RunR.st (some 36) (.load 59 (.tmp 35)) (Step.load_blk hU 0 bk (1) 61 [mv, .slice BA nb bc] (.slice BA nb bc) (by kernel_rfl) (by kernel_rfl) (by kernel_rfl) (by kernel_rfl) ?_)
        refine RunR.sil hU [] 2 6 [1, 2, 3, 4, 10, 11, 12, 38] [(1, .slice A ks.length c), (2, .slice A2 ns.length c2), (3, .slice A3 bs.length c3), (4, .slice A4 ts.length c4), (10, .slice none 0 0), (11, .int .i64 0), (12, .int .u64 (beN ts 8)), (38, .pointer (elemAt BA (beN ts 8) 4))] ((True) ∧ ((0 ≤ (beN ts 8) ∧ (beN ts 8) < ((nb : Nat) : Int)) ∧ Option.isSome BA = true) ∧ True) rfl (by kernel_rfl) ⟨trivial, ⟨by omega, hLA (by omega)⟩, trivial⟩ ?_
        obtain ⟨Ae9, ce10, xe11, Ae12, ce13, xe14, Ae15, ce16, xe17, Ae18, ce19, xe20, hg21, ⟨hr22, hc23, hl24⟩, ⟨hr25, hc26, hl27⟩, ⟨hr28, hc29, hl30⟩, ⟨hr31, hc32, hl33⟩⟩ := bx_at (by assumption : RowsOK .u8 (bxR L)) (i := (beN ts 8).toNat) (by omega)
        refine RunR.st (some 39) (.load 164 (.tmp 38)) (Step.load_of hU 1 (row 164 4 (.slice BA nb bc) nb (bxV L)) BA (beN ts 8) 4 (bxV L) (.agg #[.slice Ae9 xe11.length ce10, .slice Ae12 xe14.length ce13, .slice Ae15 xe17.length ce16, .slice Ae18 xe20.length ce19]) (by kernel_rfl) (by kernel_rfl) (tells_row _ _ _ _ _ _) (loadv_bx (by kernel_rfl) (by kernel_rfl) hg21) (by kernel_rfl) (by rw [bxV_len]; omega) ?_)
        refine RunR.st (some 13) (.alloc 164) (Step.al hU 4 96 (.agg #[.slice none 0 0, .slice none 0 0, .slice none 0 0, .slice none 0 0]) (fun b34 => ?_))
        refine RunR.st none (.store 164 (.tmp 13) (.tmp 39)) (Step.store_blk hU 0 b34 0 164 [.slice none 0 0, .slice none 0 0, .slice none 0 0, .slice none 0 0] (.agg #[.slice Ae9 xe11.length ce10, .slice Ae12 xe14.length ce13, .slice Ae15 xe17.length ce16, .slice Ae18 xe20.length ce19]) (by kernel_rfl) (by kernel_rfl) (by kernel_rfl) 4 rfl [.slice Ae9 xe11.length ce10, .slice Ae12 xe14.length ce13, .slice Ae15 xe17.length ce16, .slice Ae18 xe20.length ce19] (by kernel_rfl) rfl (by kernel_rfl) (by decide) ?_)
        refine RunR.nn ?_
        refine RunC.seq ?_
        refine RunC.sr ?_
        refine RunR.sl hU [] 1 1 [1, 2, 3, 4, 10, 11, 12, 13, 40] [(1, .slice A ks.length c), (2, .slice A2 ns.length c2), (3, .slice A3 bs.length c3), (4, .slice A4 ts.length c4), (10, .slice none 0 0), (11, .int .i64 0), (12, .int .u64 (beN ts 8)), (13, pt b34), (40, pt b34)] 1 ?_
        refine RunR.st (some 41) (.load 24 (.tmp 40)) (Step.load_blk hU 0 b34 (0) 164 [.slice Ae9 xe11.length ce10, .slice Ae12 xe14.length ce13, .slice Ae15 xe17.length ce16, .slice Ae18 xe20.length ce19] (.slice Ae9 xe11.length ce10) (by kernel_rfl) (by kernel_rfl) (by kernel_rfl) (by kernel_rfl) ?_)
        refine RunR.sl hU [] 1 3 [2, 3, 4, 10, 11, 12, 13, 41, 42] [(2, .slice A2 ns.length c2), (3, .slice A3 bs.length c3), (4, .slice A4 ts.length c4), (10, .slice none 0 0), (11, .int .i64 0), (12, .int .u64 (beN ts 8)), (13, pt b34), (41, .slice Ae9 xe11.length ce10), (42, .slice A ks.length c)] 1 ?_
        refine RunR.st (some 43) (.call { callee := .value (.func 122), args := #[.tmp 41, .tmp 42], argTypes := #[24, 24] }) (Step.cl 122 [.slice Ae9 xe11.length ce10, .slice A ks.length c] [] [vw Ae9 (nums .u8 xe11), vw A (nums .u8 ks)] [blk b34 164 [.slice Ae9 xe11.length ce10, .slice Ae12 xe14.length ce13, .slice Ae15 xe17.length ce16, .slice Ae18 xe20.length ce19], blk bk 61 [mv, .slice BA nb bc], row 164 4 (.slice BA nb bc) nb (bxV L), rws .u8 (bxR L), vw A (nums .u8 ks), vw A2 (nums .u8 ns), vw A3 (nums .u8 bs), vw A4 (nums .u8 ts)] (k_Equal_spec Ae9 ce10 xe11 A c ks xe11.length ks.length hr22 (by assumption) (by omega) hIks (by assumption) (by omega) (by rfl) (by rfl)) [] (((Lend.nil _).tells 4 (vw A (nums .u8 ks)) A (nums .u8 ks) (by kernel_rfl) (tells_vw _ _)).tells 3 (rws .u8 (bxR L)) Ae9 (nums .u8 xe11) (by kernel_rfl) (tells_bx1 hg21)) ?_)
        rintro _ _ ⟨rfl, rfl⟩
        refine RunR.sl hU [] 2 6 [2, 3, 4, 10, 11, 12, 13, 45] [(2, .slice A2 ns.length c2), (3, .slice A3 bs.length c3), (4, .slice A4 ts.length c4), (10, .slice none 0 0), (11, .int .i64 0), (12, .int .u64 (beN ts 8)), (13, pt b34), (45, .bool (!decide (xe11 = ks)))] 2 ?_
        refine RunR.ev [2, 3, 4, 10, 11, 12, 13, 45] [(2, .slice A2 ns.length c2), (3, .slice A3 bs.length c3), (4, .slice A4 ts.length c4), (10, .slice none 0 0), (11, .int .i64 0), (12, .int .u64 (beN ts 8)), (13, pt b34), (45, .bool (!decide (xe11 = ks)))] ?_
        by_cases h35 : xe11 = ks
        · skip
          refine RunR.enveq [(2, .slice A2 ns.length c2), (3, .slice A3 bs.length c3), (4, .slice A4 ts.length c4), (10, .slice none 0 0), (11, .int .i64 0), (12, .int .u64 (beN ts 8)), (13, pt b34), (45, .bool false)] (by rw [decide_eq_true h35]; try rfl) ?_
          refine RunR.sl hU [] 1 7 [2, 3, 4, 10, 11, 12, 13, 45, 46] [(2, .slice A2 ns.length c2), (3, .slice A3 bs.length c3), (4, .slice A4 ts.length c4), (10, .slice none 0 0), (11, .int .i64 0), (12, .int .u64 (beN ts 8)), (13, pt b34), (45, .bool false), (46, .pointer (some ⟨b34, 1, none⟩))] 1 ?_
          refine RunR.st (some 47) (.load 24 (.tmp 46)) (Step.load_blk hU 0 b34 (1) 164 [.slice Ae9 xe11.length ce10, .slice Ae12 xe14.length ce13, .slice Ae15 xe17.length ce16, .slice Ae18 xe20.length ce19] (.slice Ae12 xe14.length ce13) (by kernel_rfl) (by kernel_rfl) (by kernel_rfl) (by kernel_rfl) ?_)
          refine RunR.sl hU [] 1 9 [3, 4, 10, 11, 12, 13, 45, 47, 48] [(3, .slice A3 bs.length c3), (4, .slice A4 ts.length c4), (10, .slice none 0 0), (11, .int .i64 0), (12, .int .u64 (beN ts 8)), (13, pt b34), (45, .bool false), (47, .slice Ae12 xe14.length ce13), (48, .slice A2 ns.length c2)] 1 ?_
          refine RunR.st (some 49) (.call { callee := .value (.func 122), args := #[.tmp 47, .tmp 48], argTypes := #[24, 24] }) (Step.cl 122 [.slice Ae12 xe14.length ce13, .slice A2 ns.length c2] [] [vw Ae12 (nums .u8 xe14), vw A2 (nums .u8 ns)] [blk b34 164 [.slice Ae9 xe11.length ce10, .slice Ae12 xe14.length ce13, .slice Ae15 xe17.length ce16, .slice Ae18 xe20.length ce19], blk bk 61 [mv, .slice BA nb bc], row 164 4 (.slice BA nb bc) nb (bxV L), rws .u8 (bxR L), vw A (nums .u8 ks), vw A2 (nums .u8 ns), vw A3 (nums .u8 bs), vw A4 (nums .u8 ts)] (k_Equal_spec Ae12 ce13 xe14 A2 c2 ns xe14.length ns.length hr25 (by assumption) (by omega) hIns (by assumption) (by omega) (by rfl) (by rfl)) [] (((Lend.nil _).tells 5 (vw A2 (nums .u8 ns)) A2 (nums .u8 ns) (by kernel_rfl) (tells_vw _ _)).tells 3 (rws .u8 (bxR L)) Ae12 (nums .u8 xe14) (by kernel_rfl) (tells_bx2 hg21)) ?_)
          rintro _ _ ⟨rfl, rfl⟩
          refine RunR.sl hU [] 3 13 [3, 4, 10, 11, 12, 13, 52] [(3, .slice A3 bs.length c3), (4, .slice A4 ts.length c4), (10, .slice none 0 0), (11, .int .i64 0), (12, .int .u64 (beN ts 8)), (13, pt b34), (52, .bool (!decide (xe14 = ns)))] 3 ?_
          refine RunR.ev [3, 4, 10, 11, 12, 13, 52] [(3, .slice A3 bs.length c3), (4, .slice A4 ts.length c4), (10, .slice none 0 0), (11, .int .i64 0), (12, .int .u64 (beN ts 8)), (13, pt b34), (52, .bool (!decide (xe14 = ns)))] ?_
          by_cases h36 : xe14 = ns
          · skip
            refine RunR.enveq [(3, .slice A3 bs.length c3), (4, .slice A4 ts.length c4), (10, .slice none 0 0), (11, .int .i64 0), (12, .int .u64 (beN ts 8)), (13, pt b34), (52, .bool false)] (by rw [decide_eq_true h36]; try rfl) ?_
            refine RunR.sl hU [] 1 14 [3, 4, 10, 11, 12, 13, 52, 53] [(3, .slice A3 bs.length c3), (4, .slice A4 ts.length c4), (10, .slice none 0 0), (11, .int .i64 0), (12, .int .u64 (beN ts 8)), (13, pt b34), (52, .bool false), (53, .pointer (some ⟨b34, 2, none⟩))] 1 ?_
            refine RunR.st (some 54) (.load 24 (.tmp 53)) (Step.load_blk hU 0 b34 (2) 164 [.slice Ae9 xe11.length ce10, .slice Ae12 xe14.length ce13, .slice Ae15 xe17.length ce16, .slice Ae18 xe20.length ce19] (.slice Ae15 xe17.length ce16) (by kernel_rfl) (by kernel_rfl) (by kernel_rfl) (by kernel_rfl) ?_)
            refine RunR.sl hU [] 1 16 [4, 10, 11, 12, 13, 52, 54, 55] [(4, .slice A4 ts.length c4), (10, .slice none 0 0), (11, .int .i64 0), (12, .int .u64 (beN ts 8)), (13, pt b34), (52, .bool false), (54, .slice Ae15 xe17.length ce16), (55, .slice A3 bs.length c3)] 1 ?_
            refine RunR.st (some 56) (.call { callee := .value (.func 122), args := #[.tmp 54, .tmp 55], argTypes := #[24, 24] }) (Step.cl 122 [.slice Ae15 xe17.length ce16, .slice A3 bs.length c3] [] [vw Ae15 (nums .u8 xe17), vw A3 (nums .u8 bs)] [blk b34 164 [.slice Ae9 xe11.length ce10, .slice Ae12 xe14.length ce13, .slice Ae15 xe17.length ce16, .slice Ae18 xe20.length ce19], blk bk 61 [mv, .slice BA nb bc], row 164 4 (.slice BA nb bc) nb (bxV L), rws .u8 (bxR L), vw A (nums .u8 ks), vw A2 (nums .u8 ns), vw A3 (nums .u8 bs), vw A4 (nums .u8 ts)] (k_Equal_spec Ae15 ce16 xe17 A3 c3 bs xe17.length bs.length hr28 (by assumption) (by omega) hIbs (by assumption) (by omega) (by rfl) (by rfl)) [] (((Lend.nil _).tells 6 (vw A3 (nums .u8 bs)) A3 (nums .u8 bs) (by kernel_rfl) (tells_vw _ _)).tells 3 (rws .u8 (bxR L)) Ae15 (nums .u8 xe17) (by kernel_rfl) (tells_bx3 hg21)) ?_)
            rintro _ _ ⟨rfl, rfl⟩
            refine RunR.sl hU [] 3 20 [4, 10, 11, 12, 13, 59] [(4, .slice A4 ts.length c4), (10, .slice none 0 0), (11, .int .i64 0), (12, .int .u64 (beN ts 8)), (13, pt b34), (59, .bool (!decide (xe17 = bs)))] 3 ?_
            refine RunR.ev [4, 10, 11, 12, 13, 59] [(4, .slice A4 ts.length c4), (10, .slice none 0 0), (11, .int .i64 0), (12, .int .u64 (beN ts 8)), (13, pt b34), (59, .bool (!decide (xe17 = bs)))] ?_
            by_cases h37 : xe17 = bs
            · skip
              refine RunR.enveq [(4, .slice A4 ts.length c4), (10, .slice none 0 0), (11, .int .i64 0), (12, .int .u64 (beN ts 8)), (13, pt b34), (59, .bool false)] (by rw [decide_eq_true h37]; try rfl) ?_
              refine RunR.sil hU [21] 3 23 [4, 10, 11, 13, 59, 61, 62] [(4, .slice A4 ts.length c4), (10, .slice none 0 0), (11, .int .i64 0), (13, pt b34), (59, .bool false), (61, .int .i64 (beN ts 8)), (62, .pointer (some ⟨b34, 3, none⟩))] ((True) ∧ (-9223372036854775808 ≤ (beN ts 8) ∧ (beN ts 8) < 9223372036854775808) ∧ (True) ∧ True) rfl (by kernel_rfl) ⟨trivial, (by omega), trivial, trivial⟩ ?_
              refine RunR.st (some 63) (.load 24 (.tmp 62)) (Step.load_blk hU 0 b34 (3) 164 [.slice Ae9 xe11.length ce10, .slice Ae12 xe14.length ce13, .slice Ae15 xe17.length ce16, .slice Ae18 xe20.length ce19] (.slice Ae18 xe20.length ce19) (by kernel_rfl) (by kernel_rfl) (by kernel_rfl) (by kernel_rfl) ?_)
              refine RunR.sil hU [25] 2 26 [4, 10, 11, 13, 59, 61, 65] [(4, .slice A4 ts.length c4), (10, .slice none 0 0), (11, .int .i64 0), (13, pt b34), (59, .bool false), (61, .int .i64 (beN ts 8)), (65, .int .i64 (((xe20.length : Nat) : Int) + 16))] ((True) ∧ (-9223372036854775808 ≤ (((xe20.length : Nat) : Int) + 16) ∧ (((xe20.length : Nat) : Int) + 16) < 9223372036854775808) ∧ True) rfl (by kernel_rfl) ⟨trivial, (by omega), trivial⟩ ?_
              refine RunR.st (some 66) (.call { callee := .value (.func 123), args := #[.tmp 61, .tmp 65], argTypes := #[3, 3] }) (Step.cn 123 [.int .i64 (beN ts 8), .int .i64 (((xe20.length : Nat) : Int) + 16)] [] [blk b34 164 [.slice Ae9 xe11.length ce10, .slice Ae12 xe14.length ce13, .slice Ae15 xe17.length ce16, .slice Ae18 xe20.length ce19], blk bk 61 [mv, .slice BA nb bc], row 164 4 (.slice BA nb bc) nb (bxV L), rws .u8 (bxR L), vw A (nums .u8 ks), vw A2 (nums .u8 ns), vw A3 (nums .u8 bs), vw A4 (nums .u8 ts)] (k_bytesOf_spec (beN ts 8) (((xe20.length : Nat) : Int) + 16) (by omega) (by omega)) [] ?_)
              rintro _ _ ⟨A938, c939, zs40, rfl, rfl, hp41, hp42, hp43, hp44, hp45⟩
              refine RunR.sl hU [] 1 28 [10, 11, 13, 59, 66, 67] [(10, .slice none 0 0), (11, .int .i64 0), (13, pt b34), (59, .bool false), (66, .slice A938 zs40.length c939), (67, .slice A4 ts.length c4)] 1 ?_
              refine RunR.st (some 68) (.call { callee := .value (.func 122), args := #[.tmp 66, .tmp 67], argTypes := #[24, 24] }) (Step.cl 122 [.slice A938 zs40.length c939, .slice A4 ts.length c4] [] [vw A938 (nums .u8 zs40), vw A4 (nums .u8 ts)] [row 5 1 (.slice A938 zs40.length c939) zs40.length (nums .u8 zs40), blk b34 164 [.slice Ae9 xe11.length ce10, .slice Ae12 xe14.length ce13, .slice Ae15 xe17.length ce16, .slice Ae18 xe20.length ce19], blk bk 61 [mv, .slice BA nb bc], row 164 4 (.slice BA nb bc) nb (bxV L), rws .u8 (bxR L), vw A (nums .u8 ks), vw A2 (nums .u8 ns), vw A3 (nums .u8 bs), vw A4 (nums .u8 ts)] (k_Equal_spec A938 c939 zs40 A4 c4 ts zs40.length ts.length hp43 (by assumption) (by omega) hIts (by assumption) (by omega) (by rfl) (by rfl)) [] (((Lend.nil _).tells 8 (vw A4 (nums .u8 ts)) A4 (nums .u8 ts) (by kernel_rfl) (tells_vw _ _)).tells 0 (row 5 1 (.slice A938 zs40.length c939) zs40.length (nums .u8 zs40)) A938 (nums .u8 zs40) (by kernel_rfl) (tells_row _ _ _ _ _ _)) ?_)
              rintro _ _ ⟨rfl, rfl⟩
              refine RunR.sl hU [] 2 31 [10, 11, 13, 70] [(10, .slice none 0 0), (11, .int .i64 0), (13, pt b34), (70, .bool (!decide (zs40 = ts)))] 2 ?_
              refine RunR.nn ?_
              refine RunC.condn (zs40 = ts) (by kernel_rfl) (fun h46 => ?_) (fun h46 => ?_)
              · skip
                refine RunC.sr ?_
                refine RunR.sl hU [] 2 2 [10, 11, 13] [(10, .slice none 0 0), (11, .int .i64 7), (13, pt b34)] 2 ?_
                refine RunR.nn ?_
                refine RunC.ret ?_
                refine kseq_r ?_
                refine kret_rt ([row 5 1 (.slice none 0 0) 0 (nums .u8 ([] : List Int)), row 5 1 (.slice A938 zs40.length c939) zs40.length (nums .u8 zs40), blk b34 164 [.slice Ae9 xe11.length ce10, .slice Ae12 xe14.length ce13, .slice Ae15 xe17.length ce16, .slice Ae18 xe20.length ce19], blk bk 61 [mv, .slice BA nb bc], row 164 4 (.slice BA nb bc) nb (bxV L), rws .u8 (bxR L), vw A (nums .u8 ks), vw A2 (nums .u8 ns), vw A3 (nums .u8 bs), vw A4 (nums .u8 ts)]) (fun w0 W w hs => (hs).nil_row 5 1) [.slice none 0 0, .int .i64 7] [0, 2, 2, 2] [row 5 1 (.slice none 0 0) 0 (nums .u8 ([] : List Int)), blk bk 61 [mv, .slice BA nb bc], row 164 4 (.slice BA nb bc) nb (bxV L), rws .u8 (bxR L)] ⟨rfl, rfl, trivial⟩ (by kernel_rfl) rfl ⟨none, 0, ([] : List Int), 7, rfl, rfl, (by exact congrArg Prod.fst (bo_7 (by assumption : ks.length = 32 ∧ ns.length = 12) (by omega) hg21 (by rfl) (fun g_ => absurd (show boxL (beN ts 8) _ = ts from g_.2.2.2) (fun q_ => absurd (Eq.trans hp41 q_) (by assumption))))), (by exact congrArg Prod.snd (bo_7 (by assumption : ks.length = 32 ∧ ns.length = 12) (by omega) hg21 (by rfl) (fun g_ => absurd (show boxL (beN ts 8) _ = ts from g_.2.2.2) (fun q_ => absurd (Eq.trans hp41 q_) (by assumption))))), (by exact In.nil _), (by exact Nat.le_refl _), (by intro h; simp at h), (by exact Nat.zero_le _)⟩
              · skip
                refine RunC.ksr ?_
                refine RunR.sl hU [] 1 1 [10, 11, 71] [(10, .slice none 0 0), (11, .int .i64 0), (71, .pointer (some ⟨b34, 3, none⟩))] 1 ?_
                refine RunR.st (some 72) (.load 24 (.tmp 71)) (Step.load_blk hU 1 b34 (3) 164 [.slice Ae9 xe11.length ce10, .slice Ae12 xe14.length ce13, .slice Ae15 xe17.length ce16, .slice Ae18 xe20.length ce19] (.slice Ae18 xe20.length ce19) (by kernel_rfl) (by kernel_rfl) (by kernel_rfl) (by kernel_rfl) ?_)
                refine RunR.st (some 73) (.call { callee := .value (.func 124), args := #[.tmp 72], argTypes := #[24] }) (Step.cl 124 [.slice Ae18 xe20.length ce19] [] [vw Ae18 (nums .u8 xe20)] [row 5 1 (.slice A938 zs40.length c939) zs40.length (nums .u8 zs40), blk b34 164 [.slice Ae9 xe11.length ce10, .slice Ae12 xe14.length ce13, .slice Ae15 xe17.length ce16, .slice Ae18 xe20.length ce19], blk bk 61 [mv, .slice BA nb bc], row 164 4 (.slice BA nb bc) nb (bxV L), rws .u8 (bxR L), vw A (nums .u8 ks), vw A2 (nums .u8 ns), vw A3 (nums .u8 bs), vw A4 (nums .u8 ts)] (k_Clone_spec Ae18 ce19 xe20 xe20.length hr31 (by assumption) (by assumption) (by rfl)) [] ((Lend.nil _).tells 4 (rws .u8 (bxR L)) Ae18 (nums .u8 xe20) (by kernel_rfl) (tells_bx4 hg21)) ?_)
                rintro _ _ ⟨A947, c948, zs49, rfl, rfl, hp50, hp51, hp52, hp53⟩
                refine RunR.sl hU [] 2 5 [10, 11] [(10, .slice A947 zs49.length c948), (11, .int .i64 0)] 2 ?_
                refine RunR.nn ?_
                refine RunC.ret ?_
                refine kret_r [.slice A947 zs49.length c948, .int .i64 0] [0, 2, 2, 2] [row 5 1 (.slice A947 zs49.length c948) zs49.length (nums .u8 zs49), blk bk 61 [mv, .slice BA nb bc], row 164 4 (.slice BA nb bc) nb (bxV L), rws .u8 (bxR L)] ⟨rfl, rfl, trivial⟩ (by kernel_rfl) rfl ⟨A947, c948, zs49, 0, rfl, rfl, (by exact congrArg Prod.fst (bo_0 (by assumption : ks.length = 32 ∧ ns.length = 12) (by omega) hg21 (by rfl) (by assumption) (by assumption) (by assumption) (Eq.trans hp41.symm (by assumption)))), (by simp only [hp41, hp50]; exact congrArg Prod.snd (bo_0 (by assumption : ks.length = 32 ∧ ns.length = 12) (by omega) hg21 (by rfl) (by assumption) (by assumption) (by assumption) (Eq.trans hp41.symm (by assumption)))), hp51, (by assumption), (fun h => hp53 (by exact h)), (by (have h_ := bopen_le (bxM L) ks ns bs ts); rw [← bo_0 (by assumption : ks.length = 32 ∧ ns.length = 12) (by omega) hg21 (by rfl) (by assumption) (by assumption) (by assumption) (Eq.trans hp41.symm (by assumption))] at h_; simp only [hp41, hp50]; exact h_)⟩
            · skip
              refine RunR.enveq [(4, .slice A4 ts.length c4), (10, .slice none 0 0), (11, .int .i64 0), (12, .int .u64 (beN ts 8)), (13, pt b34), (59, .bool true)] (by rw [decide_eq_false h37]; try rfl) ?_
              refine RunR.sl hU [] 11 31 [10, 11, 13, 70] [(10, .slice none 0 0), (11, .int .i64 0), (13, pt b34), (70, .bool true)] 1 ?_
              refine RunR.nn ?_
              refine RunC.cond (b := true) (by kernel_rfl) (fun _ => ?_) (fun h => by cases h)
              refine RunC.sr ?_
              refine RunR.sl hU [] 2 2 [10, 11, 13] [(10, .slice none 0 0), (11, .int .i64 7), (13, pt b34)] 2 ?_
              refine RunR.nn ?_
              refine RunC.ret ?_
              refine kseq_r ?_
              refine kret_rt ([row 5 1 (.slice none 0 0) 0 (nums .u8 ([] : List Int)), blk b34 164 [.slice Ae9 xe11.length ce10, .slice Ae12 xe14.length ce13, .slice Ae15 xe17.length ce16, .slice Ae18 xe20.length ce19], blk bk 61 [mv, .slice BA nb bc], row 164 4 (.slice BA nb bc) nb (bxV L), rws .u8 (bxR L), vw A (nums .u8 ks), vw A2 (nums .u8 ns), vw A3 (nums .u8 bs), vw A4 (nums .u8 ts)]) (fun w0 W w hs => (hs).nil_row 5 1) [.slice none 0 0, .int .i64 7] [0, 1, 1, 1] [row 5 1 (.slice none 0 0) 0 (nums .u8 ([] : List Int)), blk bk 61 [mv, .slice BA nb bc], row 164 4 (.slice BA nb bc) nb (bxV L), rws .u8 (bxR L)] ⟨rfl, rfl, trivial⟩ (by kernel_rfl) rfl ⟨none, 0, ([] : List Int), 7, rfl, rfl, (by exact congrArg Prod.fst (bo_7 (by assumption : ks.length = 32 ∧ ns.length = 12) (by omega) hg21 (by rfl) (fun g_ => absurd g_.2.2.1 (by assumption)))), (by exact congrArg Prod.snd (bo_7 (by assumption : ks.length = 32 ∧ ns.length = 12) (by omega) hg21 (by rfl) (fun g_ => absurd g_.2.2.1 (by assumption)))), (by exact In.nil _), (by exact Nat.le_refl _), (by intro h; simp at h), (by exact Nat.zero_le _)⟩
          · skip
            refine RunR.enveq [(3, .slice A3 bs.length c3), (4, .slice A4 ts.length c4), (10, .slice none 0 0), (11, .int .i64 0), (12, .int .u64 (beN ts 8)), (13, pt b34), (52, .bool true)] (by rw [decide_eq_false h36]; try rfl) ?_
            refine RunR.sl hU [] 18 31 [10, 11, 13, 70] [(10, .slice none 0 0), (11, .int .i64 0), (13, pt b34), (70, .bool true)] 3 ?_
            refine RunR.nn ?_
            refine RunC.cond (b := true) (by kernel_rfl) (fun _ => ?_) (fun h => by cases h)
            refine RunC.sr ?_
            refine RunR.sl hU [] 2 2 [10, 11, 13] [(10, .slice none 0 0), (11, .int .i64 7), (13, pt b34)] 2 ?_
            refine RunR.nn ?_
            refine RunC.ret ?_
            refine kseq_r ?_
            refine kret_rt ([row 5 1 (.slice none 0 0) 0 (nums .u8 ([] : List Int)), blk b34 164 [.slice Ae9 xe11.length ce10, .slice Ae12 xe14.length ce13, .slice Ae15 xe17.length ce16, .slice Ae18 xe20.length ce19], blk bk 61 [mv, .slice BA nb bc], row 164 4 (.slice BA nb bc) nb (bxV L), rws .u8 (bxR L), vw A (nums .u8 ks), vw A2 (nums .u8 ns), vw A3 (nums .u8 bs), vw A4 (nums .u8 ts)]) (fun w0 W w hs => (hs).nil_row 5 1) [.slice none 0 0, .int .i64 7] [0, 1, 1, 1] [row 5 1 (.slice none 0 0) 0 (nums .u8 ([] : List Int)), blk bk 61 [mv, .slice BA nb bc], row 164 4 (.slice BA nb bc) nb (bxV L), rws .u8 (bxR L)] ⟨rfl, rfl, trivial⟩ (by kernel_rfl) rfl ⟨none, 0, ([] : List Int), 7, rfl, rfl, (by exact congrArg Prod.fst (bo_7 (by assumption : ks.length = 32 ∧ ns.length = 12) (by omega) hg21 (by rfl) (fun g_ => absurd g_.2.1 (by assumption)))), (by exact congrArg Prod.snd (bo_7 (by assumption : ks.length = 32 ∧ ns.length = 12) (by omega) hg21 (by rfl) (fun g_ => absurd g_.2.1 (by assumption)))), (by exact In.nil _), (by exact Nat.le_refl _), (by intro h; simp at h), (by exact Nat.zero_le _)⟩
        · skip
          refine RunR.enveq [(2, .slice A2 ns.length c2), (3, .slice A3 bs.length c3), (4, .slice A4 ts.length c4), (10, .slice none 0 0), (11, .int .i64 0), (12, .int .u64 (beN ts 8)), (13, pt b34), (45, .bool true)] (by rw [decide_eq_false h35]; try rfl) ?_
          refine RunR.sl hU [] 25 31 [10, 11, 13, 70] [(10, .slice none 0 0), (11, .int .i64 0), (13, pt b34), (70, .bool true)] 5 ?_
          refine RunR.nn ?_
          refine RunC.cond (b := true) (by kernel_rfl) (fun _ => ?_) (fun h => by cases h)
          refine RunC.sr ?_
          refine RunR.sl hU [] 2 2 [10, 11, 13] [(10, .slice none 0 0), (11, .int .i64 7), (13, pt b34)] 2 ?_
          refine RunR.nn ?_
          refine RunC.ret ?_
          refine kseq_r ?_
          refine kret_rt ([row 5 1 (.slice none 0 0) 0 (nums .u8 ([] : List Int)), blk b34 164 [.slice Ae9 xe11.length ce10, .slice Ae12 xe14.length ce13, .slice Ae15 xe17.length ce16, .slice Ae18 xe20.length ce19], blk bk 61 [mv, .slice BA nb bc], row 164 4 (.slice BA nb bc) nb (bxV L), rws .u8 (bxR L), vw A (nums .u8 ks), vw A2 (nums .u8 ns), vw A3 (nums .u8 bs), vw A4 (nums .u8 ts)]) (fun w0 W w hs => (hs).nil_row 5 1) [.slice none 0 0, .int .i64 7] [0, 1, 1, 1] [row 5 1 (.slice none 0 0) 0 (nums .u8 ([] : List Int)), blk bk 61 [mv, .slice BA nb bc], row 164 4 (.slice BA nb bc) nb (bxV L), rws .u8 (bxR L)] ⟨rfl, rfl, trivial⟩ (by kernel_rfl) rfl ⟨none, 0, ([] : List Int), 7, rfl, rfl, (by exact congrArg Prod.fst (bo_7 (by assumption : ks.length = 32 ∧ ns.length = 12) (by omega) hg21 (by rfl) (fun g_ => absurd g_.1 (by assumption)))), (by exact congrArg Prod.snd (bo_7 (by assumption : ks.length = 32 ∧ ns.length = 12) (by omega) hg21 (by rfl) (fun g_ => absurd g_.1 (by assumption)))), (by exact In.nil _), (by exact Nat.le_refl _), (by intro h; simp at h), (by exact Nat.zero_le _)⟩
end Go.Proofs.Ytkehpipialmneaa.S3
