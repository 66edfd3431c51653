import Derived.Test.YtlibhidhfbecbaaOnePure
import Derived.Test.YtlibhidhfbecbaaProg
import Derived.Test.YtlibhidhfbecbaaX9
namespace Go.Proofs.Ytlibhidhfbecbaa.LFileOne
open Go Go.Proofs.Ytlibhidhfbecbaa.SL Go.Proofs.Ytlibhidhfbecbaa.SL.W Go.Proofs.Ytlibhidhfbecbaa.SL.D Go.Proofs.Ytlibhidhfbecbaa.SL.I Go.Proofs.Ytlibhidhfbecbaa.XT
set_option linter.unusedVariables false
set_option linter.unusedSimpArgs false
set_option maxRecDepth 100000
set_option maxHeartbeats 40000000
theorem fl_data_spec (wj : Nat) (d : Nat) (A : Option Addr) (n : Nat) (c : Nat) (Wa : Option Addr) (m : Nat) (wc : Nat) (lf : Int) (dn : Bool) (a : n % 256 = 0) (hnb : n ≤ 557056) (hn : 10752 ≤ n) :
 CallsS Try.prog 30 [pt wj] [blk wj 71 [pt d], blk d 47 [ς A n c, ς Wa m wc, ι lf, η dn]] (fun r D => r = ι (datN n) ∧ D = [blk wj 71 [pt d], blk d 47 [ς A n c, ς Wa m wc, ι lf, η dn]]) := by
 refine CallsS.enter hU Try.f30 _ [.tmp 2] 7 Try.func30 rfl (by decide) rfl rfl (by kernel_rfl) fun e W => ?_
 refine RunC.sr ?_
 refine RunR.sl hU [] 1 1 [0, 2] [(0, pt wj), (2, ι 0)] 1 ?_
 refine RunR.nx ?_
 refine RunR.sl hU [] 1 1 [2, 3] [(2, ι 0), (3, pt wj)] 1 ?_
 refine RunR.st (some 4) (.call { callee := .value (.func 25), args := #[.tmp 3], argTypes := #[40] }) (Step.cn 25 [pt wj] [blk wj 71 [pt d], blk d 47 [ς A n c, ς Wa m wc, ι lf, η dn]] [] (wl_Blocks_spec wj d A n c Wa m wc lf dn ‹_› ‹_›) [0, 0] ?_)
 rintro _ _ ⟨rfl, rfl⟩
 have b : ((if 2048 < (((n : Int) / 256 - 42) - 32) then 2048 else ((n : Int) / 256 - 42) - 32) = (((n : Int) / 256 - 42) - 32) ∨ (if 2048 < (((n : Int) / 256 - 42) - 32) then 2048 else ((n : Int) / 256 - 42) - 32) = (2048 : Int)) ∧ (if 2048 < (((n : Int) / 256 - 42) - 32) then 2048 else ((n : Int) / 256 - 42) - 32) ≤ (((n : Int) / 256 - 42) - 32) ∧ (if 2048 < (((n : Int) / 256 - 42) - 32) then 2048 else ((n : Int) / 256 - 42) - 32) ≤ (2048 : Int) := by split <;> omega
 refine RunR.sil hU [2] 3 5 [2] [(2, ι (if 2048 < (((n : Int) / 256 - 42) - 32) then 2048 else ((n : Int) / 256 - 42) - 32))] ((-9223372036854775808 ≤ (((n : Int) / 256 - 42) - 32) ∧ (((n : Int) / 256 - 42) - 32) < 9223372036854775808) ∧ (True) ∧ (True) ∧ True) rfl (by kernel_rfl) ⟨(by omega), trivial, trivial, trivial⟩ ?_
 refine RunR.nn ?_
 refine RunC.ret ?_
 refine kret_r [ι (if 2048 < (((n : Int) / 256 - 42) - 32) then 2048 else ((n : Int) / 256 - 42) - 32)] [0, 0] [blk wj 71 [pt d], blk d 47 [ς A n c, ς Wa m wc, ι lf, η dn]] ⟨rfl, trivial⟩ (by kernel_rfl) rfl ⟨(by (exact congrArg (Value.int .i64) (by unfold datN; split <;> split <;> omega))), (by rfl)⟩
theorem fl_need_spec (n : Int) (hn : 0 ≤ n ∧ n ≤ 200000000000000) :
 CallsS Try.prog 33 [ι n] [] (fun r D => r = ι (need n) ∧ D = [] ∧ (0 ≤ need n ∧ 256 * need n ≤ n + 255 ∧ n ≤ 256 * need n)) := by
 refine CallsS.enter hU Try.f33 _ [.tmp 2] 7 Try.func33 rfl (by decide) rfl rfl (by kernel_rfl) fun a W => ?_
 refine RunC.sr ?_
 refine RunR.sl hU [] 1 1 [0, 2] [(0, ι n), (2, ι 0)] 1 ?_
 refine RunR.nx ?_
 refine RunR.sil hU [1, 2, 3] 5 5 [2] [(2, ι (((n + 256) - 1) / (256 : Int)))] ((True) ∧ (-9223372036854775808 ≤ (n + 256) ∧ (n + 256) < 9223372036854775808) ∧ (-9223372036854775808 ≤ ((n + 256) - 1) ∧ ((n + 256) - 1) < 9223372036854775808) ∧ (0 ≤ ((n + 256) - 1) ∧ 0 < (256 : Int) ∧ -9223372036854775808 ≤ (((n + 256) - 1) / (256 : Int)) ∧ (((n + 256) - 1) / (256 : Int)) < 9223372036854775808) ∧ (True) ∧ True) rfl (by kernel_rfl) ⟨trivial, (by omega), (by omega), (by omega), trivial, trivial⟩ ?_
 refine RunR.nn ?_
 refine RunC.ret ?_
 refine kret_r [ι (((n + 256) - 1) / (256 : Int))] [] [] ⟨rfl, trivial⟩ (by kernel_rfl) rfl ⟨(by (exact congrArg (Value.int .i64) (by unfold need; omega))), (by rfl), (by unfold need; omega)⟩
theorem fl_place_spec (i : Int) (hi : 0 ≤ i ∧ i ≤ 1000000) :
 CallsS Try.prog 23 [ι i] [] (fun r D => r = ι (32 + i) ∧ D = []) := by
 refine CallsS.enter hU Try.f23 _ [.tmp 2] 5 Try.func23 rfl (by decide) rfl rfl (by kernel_rfl) fun a W => ?_
 refine RunC.sr ?_
 refine RunR.sl hU [] 1 1 [0, 2] [(0, ι i), (2, ι 0)] 1 ?_
 refine RunR.nx ?_
 refine RunR.sil hU [1] 3 3 [2] [(2, ι (32 + i))] ((True) ∧ (-9223372036854775808 ≤ (32 + i) ∧ (32 + i) < 9223372036854775808) ∧ (True) ∧ True) rfl (by kernel_rfl) ⟨trivial, (by omega), trivial, trivial⟩ ?_
 refine RunR.nn ?_
 refine RunC.ret ?_
 refine kret_r [ι (32 + i)] [] [] ⟨rfl, trivial⟩ (by kernel_rfl) rfl ⟨rfl, rfl⟩
theorem fl_load_spec (fi : Nat) (mv : Value) (dd : Bool) (NA : Option Addr) (nk : Nat) (nc : Nat) (ns : List Int) (wj : Nat) (d : Nat) (A : Option Addr) (n : Nat) (c : Nat) (ss : List Int) (Wa : Option Addr) (m : Nat) (wc : Nat) (ws : List Ch) (lf : Int) (dn : Bool) (k : ns = List.replicate nk 0) (hnk : ns.length = nk) (hkd : (nk : Int) ≤ datN n) (hNA : 0 < nk → Option.isSome NA = true) (hnkc : nk ≤ nc) (hss : In .u8 ss) (hnl : ss.length = n) (hnc : n ≤ c) (hAs : 0 < n → Option.isSome A = true) (y : n % 256 = 0) (hnb : n ≤ 557056) (hml : ws.length = m) (hmb : m ≤ 800000) (hok : ChOK .u8 ws) (hwk : WOK n ws) (hWs : 0 < m → Option.isSome Wa = true) :
 CallsS Try.prog 31 [pt fi] (blk fi 51 [pt wj, mv, ς NA nk nc, η dd] :: κ 3 .i64 NA nk nc ns :: blk wj 71 [pt d] :: δ d A n c ss Wa m wc ws lf dn []) (fun r D => ∃ (zs : List Int), r = .tuple #[] ∧ D = (blk fi 51 [pt wj, mv, ς NA nk nc, η dd] :: κ 3 .i64 NA nk nc zs :: blk wj 71 [pt d] :: δ d A n c ss Wa m wc ws lf dn []) ∧ (zs = nextL ss (dat ws) nk) ∧ (zs.length = nk)) := by
 refine CallsS.enter hU Try.f31 _ [] 48 Try.func31 rfl (by decide) rfl rfl (by kernel_rfl) fun B W => ?_
 have hdn := hkd; unfold datN at hdn
 refine RunC.sr ?_
 refine RunR.sl hU [] 3 3 [0, 8] [(0, pt fi), (8, .pointer (some ⟨fi, 2, none⟩))] 3 ?_
 refine RunR.st (some 9) (.load 49 (.tmp 8)) (Step.load_blk hU 0 fi (2) 51 [pt wj, mv, ς NA nk nc, η dd] (ς NA nk nc) (by kernel_rfl) (by kernel_rfl) (by kernel_rfl) (by kernel_rfl) ?_)
 refine RunR.sl hU [] 2 6 [0, 10, 11] [(0, pt fi), (10, ι (nk : Int)), (11, ι 0)] 2 ?_
 refine RunR.nn ?_
 refine RunC.block ?_
 refine RunC.env [0, 10, 11] [(0, pt fi), (10, ι (nk : Int)), (11, ι 0)] (by kernel_rfl) ?_
 refine RunC.only [1, 0, 0, 0, 0, 0, 0] (κ 3 .i64 NA nk nc ns :: blk fi 51 [pt wj, mv, ς NA nk nc, η dd] :: blk wj 71 [pt d] :: δ d A n c ss Wa m wc ws lf dn []) (by kernel_rfl) ?_
 refine RunC.loop (σ := Nat) (fun n_ t_ D_ => ∃ (i : Int) (os : List Int), (0 ≤ i) ∧ (i ≤ (nk : Int)) ∧ (os = nextL ss (dat ws) i.toNat ++ List.replicate (nk - i.toNat) 0) ∧ (os.length = nk) ∧ n_ = ((nk - i).toNat : Nat) ∧ t_ = [(0, pt fi), (10, ι (nk : Int)), (11, ι i)] ∧ D_ = (κ 3 .i64 NA nk nc os :: blk fi 51 [pt wj, mv, ς NA nk nc, η dd] :: blk wj 71 [pt d] :: δ d A n c ss Wa m wc ws lf dn [])) id _ ⟨0, ns, (by omega), (by omega), (by rw [k]; simp [nextL]), ‹_›, rfl, rfl, rfl⟩ ?_
 rintro n_ _ _ ⟨i, os, hi, x, ho, hol, rfl, rfl, rfl⟩
 refine RunC.sr ?_
 refine RunR.sl hU [] 1 1 [0, 10, 11, 12] [(0, pt fi), (10, ι (nk : Int)), (11, ι i), (12, η (decide (i < (nk : Int))))] 1 ?_
 refine RunR.nn ?_
 refine RunC.seq ?_
 refine RunC.condp (i < (nk : Int)) (by kernel_rfl) (fun v => ?_) (fun v => ?_)
 ·refine RunC.ks ?_
  refine RunC.seq ?_
  refine RunC.block ?_
  refine RunC.sr ?_
  refine RunR.sl hU [] 2 2 [0, 2, 10, 11] [(0, pt fi), (2, ι i), (10, ι (nk : Int)), (11, ι i)] 2 ?_
  refine RunR.nx ?_
  refine RunR.sl hU [] 3 3 [0, 2, 10, 11, 17] [(0, pt fi), (2, ι i), (10, ι (nk : Int)), (11, ι i), (17, pt fi)] 3 ?_
  refine RunR.st (some 18) (.load 40 (.tmp 17)) (Step.load_blk hU 1 fi (0) 51 [pt wj, mv, ς NA nk nc, η dd] (pt wj) (by kernel_rfl) (by kernel_rfl) (by kernel_rfl) (by kernel_rfl) ?_)
  refine RunR.sil hU [5, 6] 3 7 [0, 2, 10, 11, 18, 21] [(0, pt fi), (2, ι i), (10, ι (nk : Int)), (11, ι i), (18, pt wj), (21, ι (16 + (i / (128 : Int))))] ((True) ∧ (0 ≤ i ∧ 0 < (128 : Int) ∧ -9223372036854775808 ≤ (i / (128 : Int)) ∧ (i / (128 : Int)) < 9223372036854775808) ∧ (-9223372036854775808 ≤ (16 + (i / (128 : Int))) ∧ (16 + (i / (128 : Int))) < 9223372036854775808) ∧ True) rfl (by kernel_rfl) ⟨trivial, (by omega), (by omega), trivial⟩ ?_
  refine RunR.st (some 22) (.call { callee := .value (.func 22), args := #[.tmp 18, .tmp 21], argTypes := #[40, 3] }) (Step.cn 22 [pt wj, ι (16 + (i / (128 : Int)))] (blk wj 71 [pt d] :: δ d A n c ss Wa m wc ws lf dn []) [κ 3 .i64 NA nk nc os, blk fi 51 [pt wj, mv, ς NA nk nc, η dd]] (wl_Read_spec wj d A n c ss Wa m wc ws lf dn (16 + (i / (128 : Int))) hss ‹_› ‹_› (fun h => hAs (by exact h)) ‹_› ‹_› ‹_› (by omega) ‹_› ‹_› (fun h => hWs (by exact h)) (by (refine ⟨?_, ?_⟩ <;> omega))) [2, 2, 2, 2, 2] ?_)
  rintro _ _ ⟨b, e, a, z, rfl, rfl, o, g, w, j⟩
  rcases o with ⟨f, l, q, p⟩ | ⟨f, _⟩; rotate_left; exact absurd (show there n _ from ⟨by omega, by omega⟩) f
  refine RunR.sl hU [] 5 13 [0, 2, 3, 10, 11] [(0, pt fi), (2, ι i), (3, ς b a.length e), (10, ι (nk : Int)), (11, ι i)] 5 ?_
  refine RunR.nx ?_
  refine RunR.sil hU [1, 2] 4 4 [0, 2, 3, 5, 10, 11] [(0, pt fi), (2, ι i), (3, ς b a.length e), (5, ι (2 * (i % (128 : Int)))), (10, ι (nk : Int)), (11, ι i)] ((True) ∧ (0 ≤ i ∧ 0 < (128 : Int)) ∧ (-9223372036854775808 ≤ (2 * (i % (128 : Int))) ∧ (2 * (i % (128 : Int))) < 9223372036854775808) ∧ (True) ∧ True) rfl (by kernel_rfl) ⟨trivial, (by omega), (by omega), trivial, trivial⟩ ?_
  refine RunR.nn ?_
  refine RunC.regionU hU 20 [blk fi 51 [pt wj, mv, ς NA nk nc, η dd], κ 5 .u8 b a.length e a] [7, 0] [18, 19] (bm 20 0) (by kernel_rfl) (by kernel_rfl) (by kernel_rfl) ?_
  refine RunU.sl hU 0 (bm 20 1) 28 (pt fi) ?_
  refine RunU.sl hU 1 (bm 20 3) 29 (pt fi) ?_
  refine RunU.sl hU 2 (bm 20 7) 30 (.pointer (some ⟨fi, 2, none⟩)) ?_
  refine RunU.rd 3 (bm 20 15) 31 (.load 49 (.tmp 30)) (ς NA nk nc) [7, 0] (Reads.load_blk hU 0 fi (2) 51 [pt wj, mv, ς NA nk nc, η dd] (ς NA nk nc) (by kernel_rfl) (by kernel_rfl) (by kernel_rfl)) ?_
  refine RunU.sl hU 4 (bm 20 31) 32 (ι i) ?_
  refine RunU.sl hU 5 (bm 20 63) 33 (ς b a.length e) ?_
  refine RunU.sl hU 6 (bm 20 127) 34 (ι (2 * (i % (128 : Int)))) ?_
  refine RunU.sil hU false 7 (bm 20 255) 35 (.pointer (elemAt b (2 * (i % (128 : Int))) 1)) ((0 ≤ (2 * (i % (128 : Int))) ∧ (2 * (i % (128 : Int))) < (a.length : Int)) ∧ Option.isSome b = true) (by kernel_rfl) ⟨by omega, j (by omega)⟩ (by kernel_rfl) (by kernel_rfl) (fun _ _ _ h => h) ?_
  refine RunU.rd 8 (bm 20 511) 36 (.load 5 (.tmp 35)) (.int .u8 (a.getD (2 * (i % (128 : Int))).toNat 0)) [7, 0] (Reads.load_num hU 1 (κ 5 .u8 b a.length e a) b (2 * (i % (128 : Int))) .u8 a rfl (by kernel_rfl) (by kernel_rfl) (tells_row _ _ _ _ _ _) (by omega)) ?_
  have s : 0 ≤ a.getD ((2 * (i % (128 : Int))).toNat) 0 ∧ a.getD ((2 * (i % (128 : Int))).toNat) 0 < 256 := g.at_ _
  refine RunU.sil hU true 9 (bm 20 1023) 37 (ι (a.getD (2 * (i % (128 : Int))).toNat 0)) (-9223372036854775808 ≤ (a.getD (2 * (i % (128 : Int))).toNat 0) ∧ (a.getD (2 * (i % (128 : Int))).toNat 0) < 9223372036854775808) (by kernel_rfl) (by omega) (by kernel_rfl) (by kernel_rfl) (fun _ _ _ h => h) ?_
  refine RunU.sl hU 10 (bm 20 2047) 38 (ς b a.length e) ?_
  refine RunU.sl hU 11 (bm 20 4095) 39 (ι (2 * (i % (128 : Int)))) ?_
  refine RunU.sil hU true 12 (bm 20 8191) 40 (ι ((2 * (i % (128 : Int))) + 1)) (-9223372036854775808 ≤ ((2 * (i % (128 : Int))) + 1) ∧ ((2 * (i % (128 : Int))) + 1) < 9223372036854775808) (by kernel_rfl) (by omega) (by kernel_rfl) (by kernel_rfl) (fun _ _ _ h => h) ?_
  refine RunU.sil hU false 13 (bm 20 16383) 41 (.pointer (elemAt b ((2 * (i % (128 : Int))) + 1) 1)) ((0 ≤ ((2 * (i % (128 : Int))) + 1) ∧ ((2 * (i % (128 : Int))) + 1) < (a.length : Int)) ∧ Option.isSome b = true) (by kernel_rfl) ⟨by omega, j (by omega)⟩ (by kernel_rfl) (by kernel_rfl) (fun _ _ _ h => h) ?_
  refine RunU.rd 14 (bm 20 32767) 42 (.load 5 (.tmp 41)) (.int .u8 (a.getD ((2 * (i % (128 : Int))) + 1).toNat 0)) [7, 0] (Reads.load_num hU 1 (κ 5 .u8 b a.length e a) b ((2 * (i % (128 : Int))) + 1) .u8 a rfl (by kernel_rfl) (by kernel_rfl) (tells_row _ _ _ _ _ _) (by omega)) ?_
  have t : 0 ≤ a.getD (((2 * (i % (128 : Int))) + 1).toNat) 0 ∧ a.getD (((2 * (i % (128 : Int))) + 1).toNat) 0 < 256 := g.at_ _
  refine RunU.sil hU true 15 (bm 20 65535) 43 (ι (a.getD ((2 * (i % (128 : Int))) + 1).toNat 0)) (-9223372036854775808 ≤ (a.getD ((2 * (i % (128 : Int))) + 1).toNat 0) ∧ (a.getD ((2 * (i % (128 : Int))) + 1).toNat 0) < 9223372036854775808) (by kernel_rfl) (by omega) (by kernel_rfl) (by kernel_rfl) (fun _ _ _ h => h) ?_
  refine RunU.sil hU true 16 (bm 20 131071) 44 (ι ((a.getD ((2 * (i % (128 : Int))) + 1).toNat 0) * 2 ^ 8)) (0 ≤ (8 : Int) ∧ -9223372036854775808 ≤ ((a.getD ((2 * (i % (128 : Int))) + 1).toNat 0) * 2 ^ 8) ∧ ((a.getD ((2 * (i % (128 : Int))) + 1).toNat 0) * 2 ^ 8) < 9223372036854775808) (by kernel_rfl) (by omega) (by kernel_rfl) (by kernel_rfl) (fun _ _ _ h => h) ?_
  refine RunU.sl hU 17 (bm 20 262143) 45 (ι (bits2 .or .i64 (a.getD (2 * (i % (128 : Int))).toNat 0) ((a.getD ((2 * (i % (128 : Int))) + 1).toNat 0) * 2 ^ 8))) ?_
  refine RunU.sil hU false 18 (bm 20 524287) 46 (.pointer (elemAt NA i 1)) ((0 ≤ i ∧ i < (nk : Int)) ∧ Option.isSome NA = true) (by kernel_rfl) ⟨by omega, hNA (by omega)⟩ (by kernel_rfl) (by kernel_rfl) (fun _ _ _ h => h) ?_
  refine RunU.on none (.store 3 (.tmp 46) (.tmp 45)) 19 (bm 20 1048575) [] (Step.store_num hU 6 3 nk nc NA .i64 os i (bits2 .or .i64 (a.getD (2 * (i % (128 : Int))).toNat 0) ((a.getD ((2 * (i % (128 : Int))) + 1).toNat 0) * 2 ^ 8)) (by kernel_rfl) (by kernel_rfl) (by kernel_rfl) rfl (by omega) ?_)
  have u : (os.set (i).toNat (bits2 .or .i64 (a.getD (2 * (i % (128 : Int))).toNat 0) ((a.getD ((2 * (i % (128 : Int))) + 1).toNat 0) * 2 ^ 8))).length = os.length := List.length_set
  refine orR ?_
  refine RunU.ev [0, 10, 11] [(0, pt fi), (10, ι (nk : Int)), (11, ι i)] ?_
  refine RunU.dn ?_
  refine kblock_n ?_
  refine kseq_n ?_
  refine RunC.region ?_
  refine RunR.sil hU [0] 2 2 [0, 10, 11] [(0, pt fi), (10, ι (nk : Int)), (11, ι (i + 1))] ((-9223372036854775808 ≤ (i + 1) ∧ (i + 1) < 9223372036854775808) ∧ (True) ∧ True) rfl (by kernel_rfl) ⟨(by omega), trivial, trivial⟩ ?_
  refine RunR.dn ?_
  refine kloop_n _ [0, 10, 11] [0, 6, 1, 1, 1, 1, 1] [(0, pt fi), (10, ι (nk : Int)), (11, ι (i + 1))] (κ 3 .i64 NA nk nc (os.set (i).toNat (bits2 .or .i64 (a.getD (2 * (i % (128 : Int))).toNat 0) ((a.getD ((2 * (i % (128 : Int))) + 1).toNat 0) * 2 ^ 8))) :: blk fi 51 [pt wj, mv, ς NA nk nc, η dd] :: blk wj 71 [pt d] :: δ d A n c ss Wa m wc ws lf dn []) (by kernel_rfl) (by kernel_rfl) ?_ ⟨(i + 1), (os.set (i).toNat (bits2 .or .i64 (a.getD (2 * (i % (128 : Int))).toNat 0) ((a.getD ((2 * (i % (128 : Int))) + 1).toNat 0) * 2 ^ 8))), (by omega), ‹_›, (by have hi_ := g; exact load_step hi (by omega) ho ‹_› ((or_u16 (hi_.at_ _) (hi_.at_ _)).trans (by unfold nx; rw [show (2 * (i % 128) + 1).toNat = (2 * (i % 128)).toNat + 1 by omega]))), (by rw [List.length_set]; exact hol), rfl, (by rfl), (by rfl)⟩
  show ((nk - (i + 1)).toNat : Nat) < ((nk - i).toNat : Nat)
  omega
 refine RunC.exit ?_
 refine kseq_e ?_
 refine kloop_e ?_
 refine kblock_e ?_
 refine kret_n [] [1, 0, 0, 0, 0, 0, 0] (blk fi 51 [pt wj, mv, ς NA nk nc, η dd] :: κ 3 .i64 NA nk nc os :: blk wj 71 [pt d] :: δ d A n c ss Wa m wc ws lf dn []) trivial (by kernel_rfl) rfl ⟨os, rfl, rfl, (by exact load_end ho (by omega)), ‹_›⟩
theorem fl_chain_spec (fi : Nat) (wj : Nat) (mv : Value) (dd : Bool) (NA : Option Addr) (nk : Nat) (nc : Nat) (ns : List Int) (UA : Option Addr) (uc : Nat) (us : List Bool) (a : Int) (many : Int) (hnk : ns.length = nk) (hNA : 0 < nk → Option.isSome NA = true) (hnkc : nk ≤ nc) (huk : us.length = nk) (hUA : 0 < nk → Option.isSome UA = true) (hins : Bnd 0 65536 ns) (hkb : nk ≤ 2048) (ha : 0 ≤ a ∧ a < 65536) (hm : 0 ≤ many ∧ many ≤ 1000000) :
 CallsS Try.prog 53 [pt fi, ι a, ι many, ς UA nk uc] [blk fi 51 [pt wj, mv, ς NA nk nc, η dd], κ 3 .i64 NA nk nc ns, row 4 1 (ς UA nk uc) nk (bls us)] (fun r D => ∃ (n : Option Addr) (o : Nat) (zs : List Int) (ok : Bool) (i : List Bool), r = .tuple #[ς n zs.length o, η ok] ∧ D = [κ 3 .i64 n zs.length o zs, blk fi 51 [pt wj, mv, ς NA nk nc, η dd], κ 3 .i64 NA nk nc ns, row 4 1 (ς UA nk uc) nk (bls i)] ∧ ((zs, ok, i) = chainP ns many.toNat a us []) ∧ (i.length = nk) ∧ (In .i64 zs) ∧ (zs.length ≤ o) ∧ (0 < zs.length → Option.isSome n = true) ∧ ((zs.length : Int) ≤ many)) := by
 refine CallsS.enter hU Try.f53 _ [.tmp 8, .tmp 9] 60 Try.func53 rfl (by decide) rfl rfl (by kernel_rfl) fun l W => ?_
 refine RunC.sr ?_
 refine RunR.sl hU [] 2 2 [0, 1, 2, 3, 8, 9] [(0, pt fi), (1, ι a), (2, ι many), (3, ς UA nk uc), (8, ς0), (9, η false)] 2 ?_
 refine RunR.nx ?_
 refine RunR.sl hU [] 1 1 [0, 1, 2, 3, 8, 9, 10] [(0, pt fi), (1, ι a), (2, ι many), (3, ς UA nk uc), (8, ς0), (9, η false), (10, ς0)] 1 ?_
 refine RunR.nn ?_
 refine RunC.seq ?_
 refine RunC.sr ?_
 refine RunR.sl hU [] 2 2 [0, 2, 3, 8, 9, 10, 11] [(0, pt fi), (2, ι many), (3, ς UA nk uc), (8, ς0), (9, η false), (10, ς0), (11, ι a)] 2 ?_
 refine RunR.nn ?_
 refine RunC.block ?_
 refine RunC.turn ([κ 3 .i64 none 0 0 ([] : List Int), blk fi 51 [pt wj, mv, ς NA nk nc, η dd], κ 3 .i64 NA nk nc ns, row 4 1 (ς UA nk uc) nk (bls us)]) (fun _ _ w hs => hs.nil_row 3 1) ?_
 refine RunC.env [0, 2, 3, 10, 11] [(0, pt fi), (2, ι many), (3, ς UA nk uc), (10, ς0), (11, ι a)] (by kernel_rfl) ?_
 refine RunC.only [0, 2, 0, 0] [κ 3 .i64 none 0 0 ([] : List Int), row 4 1 (ς UA nk uc) nk (bls us), blk fi 51 [pt wj, mv, ς NA nk nc, η dd], κ 3 .i64 NA nk nc ns] (by kernel_rfl) ?_
 refine RunC.loop (σ := Nat) (fun n_ t_ D_ => ∃ (at_ : Int) (e : List Bool) (os : List Int) (c : Option Addr) (d : Nat), (0 ≤ at_ ∧ at_ < 65536) ∧ (chainP ns many.toNat a us [] = chainP ns (many.toNat - os.length) at_ e os) ∧ ((os.length : Int) ≤ many) ∧ (e.length = nk) ∧ (In .i64 os) ∧ (os.length ≤ d) ∧ (0 < os.length → Option.isSome c = true) ∧ n_ = (many.toNat - os.length : Nat) ∧ t_ = [(0, pt fi), (2, ι many), (3, ς UA nk uc), (10, ς c os.length d), (11, ι at_)] ∧ D_ = [κ 3 .i64 c os.length d os, row 4 1 (ς UA nk uc) nk (bls e), blk fi 51 [pt wj, mv, ς NA nk nc, η dd], κ 3 .i64 NA nk nc ns]) id _ ⟨a, us, ([] : List Int), none, 0, (by exact ha), (by rfl), (by simp; omega), ‹_›, (by exact In.nil _), (by exact Nat.zero_le _), (by intro h; simp at h), rfl, rfl, rfl⟩ ?_
 rintro n_ _ _ ⟨at_, e, os, c, d, hat, hC, hol, hu, hios, hcos, hAos, rfl, rfl, rfl⟩
 refine RunC.seq ?_
 refine RunC.sr ?_
 refine RunR.sl hU [] 2 2 [0, 2, 3, 10, 11, 15] [(0, pt fi), (2, ι many), (3, ς UA nk uc), (10, ς c os.length d), (11, ι at_), (15, η (!decide (at_ = 65535)))] 2 ?_
 refine RunR.nn ?_
 refine RunC.condn (at_ = 65535) (by kernel_rfl) (fun u => ?_) (fun u => ?_)
 ·refine RunC.ks ?_
  refine RunC.block ?_
  refine RunC.sr ?_
  refine RunR.sil hU [1] 3 3 [0, 2, 3, 10, 11, 12] [(0, pt fi), (2, ι many), (3, ς UA nk uc), (10, ς c os.length d), (11, ι at_), (12, ι (at_ - 1))] ((True) ∧ (-9223372036854775808 ≤ (at_ - 1) ∧ (at_ - 1) < 9223372036854775808) ∧ (True) ∧ True) rfl (by kernel_rfl) ⟨trivial, (by omega), trivial, trivial⟩ ?_
  refine RunR.nn ?_
  refine RunC.seq ?_
  refine RunC.sr ?_
  refine RunR.sl hU [] 3 3 [0, 2, 3, 10, 11, 12, 20] [(0, pt fi), (2, ι many), (3, ς UA nk uc), (10, ς c os.length d), (11, ι at_), (12, ι (at_ - 1)), (20, η (decide ((at_ - 1) < 0)))] 3 ?_
  refine RunR.ev [0, 2, 3, 10, 11, 12, 20] [(0, pt fi), (2, ι many), (3, ς UA nk uc), (10, ς c os.length d), (11, ι at_), (12, ι (at_ - 1)), (20, η (decide ((at_ - 1) < 0)))] ?_
  by_cases h2 : (at_ - 1) < 0
  ·refine RunR.enveq [(0, pt fi), (2, ι many), (3, ς UA nk uc), (10, ς c os.length d), (11, ι at_), (12, ι (at_ - 1)), (20, η true)] (by rw [decide_eq_true h2]; try rfl) ?_
   refine RunR.sl hU [] 20 23 [0, 2, 3, 10, 11, 12, 40] [(0, pt fi), (2, ι many), (3, ς UA nk uc), (10, ς c os.length d), (11, ι at_), (12, ι (at_ - 1)), (40, η true)] 5 ?_
   refine RunR.nn ?_
   refine RunC.cond (b := true) (by kernel_rfl) (fun _ => ?_) (fun h => by cases h)
   refine RunC.sr ?_
   refine RunR.sl hU [] 2 2 [0, 2, 3, 8, 9, 10, 11, 12] [(0, pt fi), (2, ι many), (3, ς UA nk uc), (8, ς0), (9, η false), (10, ς c os.length d), (11, ι at_), (12, ι (at_ - 1))] 2 ?_
   refine RunR.nn ?_
   refine RunC.ret ?_
   refine kseq_r ?_
   refine kblock_r ?_
   refine kloop_r ?_
   refine kblock_r ?_
   refine kseq_r ?_
   refine kret_rt ([κ 3 .i64 none 0 0 ([] : List Int), κ 3 .i64 c os.length d os, row 4 1 (ς UA nk uc) nk (bls e), blk fi 51 [pt wj, mv, ς NA nk nc, η dd], κ 3 .i64 NA nk nc ns]) (fun l W w hs => (hs).nil_row 3 1) [ς0, η false] [0, 2, 2, 1] [κ 3 .i64 none 0 0 ([] : List Int), blk fi 51 [pt wj, mv, ς NA nk nc, η dd], κ 3 .i64 NA nk nc ns, row 4 1 (ς UA nk uc) nk (bls e)] ⟨rfl, rfl, trivial⟩ (by kernel_rfl) rfl ⟨none, 0, ([] : List Int), false, e, rfl, rfl, (by exact chain_stop hC (by omega) ‹_› (by (left; omega))), ‹_›, (by exact In.nil _), (by exact Nat.le_refl _), (by intro h; simp at h), (by simp; omega)⟩
  refine RunR.enveq [(0, pt fi), (2, ι many), (3, ς UA nk uc), (10, ς c os.length d), (11, ι at_), (12, ι (at_ - 1)), (20, η false)] (by rw [decide_eq_false h2]; try rfl) ?_
  refine RunR.sl hU [] 4 7 [0, 2, 3, 10, 11, 12, 20, 21, 24] [(0, pt fi), (2, ι many), (3, ς UA nk uc), (10, ς c os.length d), (11, ι at_), (12, ι (at_ - 1)), (20, η false), (21, ι (at_ - 1)), (24, .pointer (some ⟨fi, 2, none⟩))] 4 ?_
  refine RunR.st (some 25) (.load 49 (.tmp 24)) (Step.load_blk hU 2 fi (2) 51 [pt wj, mv, ς NA nk nc, η dd] (ς NA nk nc) (by kernel_rfl) (by kernel_rfl) (by kernel_rfl) (by kernel_rfl) ?_)
  refine RunR.sl hU [] 4 12 [0, 2, 3, 10, 11, 12, 29] [(0, pt fi), (2, ι many), (3, ς UA nk uc), (10, ς c os.length d), (11, ι at_), (12, ι (at_ - 1)), (29, η (decide ((at_ - 1) ≥ (nk : Int))))] 4 ?_
  refine RunR.ev [0, 2, 3, 10, 11, 12, 29] [(0, pt fi), (2, ι many), (3, ς UA nk uc), (10, ς c os.length d), (11, ι at_), (12, ι (at_ - 1)), (29, η (decide ((at_ - 1) ≥ (nk : Int))))] ?_
  by_cases h3 : (at_ - 1) ≥ (nk : Int)
  ·refine RunR.enveq [(0, pt fi), (2, ι many), (3, ς UA nk uc), (10, ς c os.length d), (11, ι at_), (12, ι (at_ - 1)), (29, η true)] (by rw [decide_eq_true h3]; try rfl) ?_
   refine RunR.sl hU [] 11 23 [0, 2, 3, 10, 11, 12, 40] [(0, pt fi), (2, ι many), (3, ς UA nk uc), (10, ς c os.length d), (11, ι at_), (12, ι (at_ - 1)), (40, η true)] 3 ?_
   refine RunR.nn ?_
   refine RunC.cond (b := true) (by kernel_rfl) (fun _ => ?_) (fun h => by cases h)
   refine RunC.sr ?_
   refine RunR.sl hU [] 2 2 [0, 2, 3, 8, 9, 10, 11, 12] [(0, pt fi), (2, ι many), (3, ς UA nk uc), (8, ς0), (9, η false), (10, ς c os.length d), (11, ι at_), (12, ι (at_ - 1))] 2 ?_
   refine RunR.nn ?_
   refine RunC.ret ?_
   refine kseq_r ?_
   refine kblock_r ?_
   refine kloop_r ?_
   refine kblock_r ?_
   refine kseq_r ?_
   refine kret_rt ([κ 3 .i64 none 0 0 ([] : List Int), κ 3 .i64 c os.length d os, row 4 1 (ς UA nk uc) nk (bls e), blk fi 51 [pt wj, mv, ς NA nk nc, η dd], κ 3 .i64 NA nk nc ns]) (fun l W w hs => (hs).nil_row 3 1) [ς0, η false] [0, 2, 2, 1] [κ 3 .i64 none 0 0 ([] : List Int), blk fi 51 [pt wj, mv, ς NA nk nc, η dd], κ 3 .i64 NA nk nc ns, row 4 1 (ς UA nk uc) nk (bls e)] ⟨rfl, rfl, trivial⟩ (by kernel_rfl) rfl ⟨none, 0, ([] : List Int), false, e, rfl, rfl, (by exact chain_stop hC (by omega) ‹_› (by (right; left; omega))), ‹_›, (by exact In.nil _), (by exact Nat.le_refl _), (by intro h; simp at h), (by simp; omega)⟩
  refine RunR.enveq [(0, pt fi), (2, ι many), (3, ς UA nk uc), (10, ς c os.length d), (11, ι at_), (12, ι (at_ - 1)), (29, η false)] (by rw [decide_eq_false h3]; try rfl) ?_
  refine RunR.sil hU [] 3 15 [0, 2, 3, 10, 11, 12, 29, 32] [(0, pt fi), (2, ι many), (3, ς UA nk uc), (10, ς c os.length d), (11, ι at_), (12, ι (at_ - 1)), (29, η false), (32, .pointer (elemAt UA (at_ - 1) 1))] ((True) ∧ (True) ∧ ((0 ≤ (at_ - 1) ∧ (at_ - 1) < (nk : Int)) ∧ Option.isSome UA = true) ∧ True) rfl (by kernel_rfl) ⟨trivial, trivial, ⟨by omega, hUA (by omega)⟩, trivial⟩ ?_
  refine RunR.st (some 33) (.load 4 (.tmp 32)) (Step.load_of hU 1 (row 4 1 (ς UA nk uc) nk (bls e)) UA (at_ - 1) 1 (bls e) (η (e.getD (at_ - 1).toNat false)) (by kernel_rfl) (by kernel_rfl) (tells_row _ _ _ _ _ _) (loadv_bls (by kernel_rfl) (by omega)) (by kernel_rfl) (by rw [bls_len]; omega) ?_)
  refine RunR.sl hU [] 2 18 [0, 2, 3, 10, 11, 12, 35] [(0, pt fi), (2, ι many), (3, ς UA nk uc), (10, ς c os.length d), (11, ι at_), (12, ι (at_ - 1)), (35, η (e.getD (at_ - 1).toNat false))] 2 ?_
  refine RunR.ev [0, 2, 3, 10, 11, 12, 35] [(0, pt fi), (2, ι many), (3, ς UA nk uc), (10, ς c os.length d), (11, ι at_), (12, ι (at_ - 1)), (35, η (e.getD (at_ - 1).toNat false))] ?_
  by_cases m : e.getD (at_ - 1).toNat false = true
  ·refine RunR.enveq [(0, pt fi), (2, ι many), (3, ς UA nk uc), (10, ς c os.length d), (11, ι at_), (12, ι (at_ - 1)), (35, η true)] (by rw [m]; try rfl) ?_
   refine RunR.sl hU [] 5 23 [0, 2, 3, 10, 11, 12, 40] [(0, pt fi), (2, ι many), (3, ς UA nk uc), (10, ς c os.length d), (11, ι at_), (12, ι (at_ - 1)), (40, η true)] 1 ?_
   refine RunR.nn ?_
   refine RunC.cond (b := true) (by kernel_rfl) (fun _ => ?_) (fun h => by cases h)
   refine RunC.sr ?_
   refine RunR.sl hU [] 2 2 [0, 2, 3, 8, 9, 10, 11, 12] [(0, pt fi), (2, ι many), (3, ς UA nk uc), (8, ς0), (9, η false), (10, ς c os.length d), (11, ι at_), (12, ι (at_ - 1))] 2 ?_
   refine RunR.nn ?_
   refine RunC.ret ?_
   refine kseq_r ?_
   refine kblock_r ?_
   refine kloop_r ?_
   refine kblock_r ?_
   refine kseq_r ?_
   refine kret_rt ([κ 3 .i64 none 0 0 ([] : List Int), κ 3 .i64 c os.length d os, row 4 1 (ς UA nk uc) nk (bls e), blk fi 51 [pt wj, mv, ς NA nk nc, η dd], κ 3 .i64 NA nk nc ns]) (fun l W w hs => (hs).nil_row 3 1) [ς0, η false] [0, 2, 2, 1] [κ 3 .i64 none 0 0 ([] : List Int), blk fi 51 [pt wj, mv, ς NA nk nc, η dd], κ 3 .i64 NA nk nc ns, row 4 1 (ς UA nk uc) nk (bls e)] ⟨rfl, rfl, trivial⟩ (by kernel_rfl) rfl ⟨none, 0, ([] : List Int), false, e, rfl, rfl, (by exact chain_stop hC (by omega) ‹_› (by (right; right; left; assumption))), ‹_›, (by exact In.nil _), (by exact Nat.le_refl _), (by intro h; simp at h), (by simp; omega)⟩
  have m := Bool.eq_false_iff.2 m
  refine RunR.enveq [(0, pt fi), (2, ι many), (3, ς UA nk uc), (10, ς c os.length d), (11, ι at_), (12, ι (at_ - 1)), (35, η false)] (by rw [m]; try rfl) ?_
  refine RunR.sl hU [] 5 23 [0, 2, 3, 10, 11, 12, 40] [(0, pt fi), (2, ι many), (3, ς UA nk uc), (10, ς c os.length d), (11, ι at_), (12, ι (at_ - 1)), (40, η (decide ((os.length : Int) = many)))] 5 ?_
  refine RunR.nn ?_
  refine RunC.condp ((os.length : Int) = many) (by kernel_rfl) (fun x => ?_) (fun x => ?_)
  ·refine RunC.sr ?_
   refine RunR.sl hU [] 2 2 [0, 2, 3, 8, 9, 10, 11, 12] [(0, pt fi), (2, ι many), (3, ς UA nk uc), (8, ς0), (9, η false), (10, ς c os.length d), (11, ι at_), (12, ι (at_ - 1))] 2 ?_
   refine RunR.nn ?_
   refine RunC.ret ?_
   refine kseq_r ?_
   refine kblock_r ?_
   refine kloop_r ?_
   refine kblock_r ?_
   refine kseq_r ?_
   refine kret_rt ([κ 3 .i64 none 0 0 ([] : List Int), κ 3 .i64 c os.length d os, row 4 1 (ς UA nk uc) nk (bls e), blk fi 51 [pt wj, mv, ς NA nk nc, η dd], κ 3 .i64 NA nk nc ns]) (fun l W w hs => (hs).nil_row 3 1) [ς0, η false] [0, 2, 2, 1] [κ 3 .i64 none 0 0 ([] : List Int), blk fi 51 [pt wj, mv, ς NA nk nc, η dd], κ 3 .i64 NA nk nc ns, row 4 1 (ς UA nk uc) nk (bls e)] ⟨rfl, rfl, trivial⟩ (by kernel_rfl) rfl ⟨none, 0, ([] : List Int), false, e, rfl, rfl, (by exact chain_stop hC (by omega) ‹_› (by (right; right; right; omega))), ‹_›, (by exact In.nil _), (by exact Nat.le_refl _), (by intro h; simp at h), (by simp; omega)⟩
  refine RunC.ksr ?_
  refine RunR.sil hU [] 3 3 [0, 2, 3, 10, 11, 12, 43] [(0, pt fi), (2, ι many), (3, ς UA nk uc), (10, ς c os.length d), (11, ι at_), (12, ι (at_ - 1)), (43, .pointer (elemAt UA (at_ - 1) 1))] ((True) ∧ (True) ∧ ((0 ≤ (at_ - 1) ∧ (at_ - 1) < (nk : Int)) ∧ Option.isSome UA = true) ∧ True) rfl (by kernel_rfl) ⟨trivial, trivial, ⟨by omega, hUA (by omega)⟩, trivial⟩ ?_
  refine RunR.st none (.store 4 (.tmp 43) (.const (η true))) (Step.store_bl hU 1 4 nk uc UA e (at_ - 1) true (by kernel_rfl) (by kernel_rfl) (by kernel_rfl) (by kernel_rfl) (by omega) ?_)
  have y : (e.set (at_ - 1).toNat true).length = e.length := List.length_set
  refine RunR.nx ?_
  refine RunR.sl hU [] 2 2 [0, 2, 3, 10, 11, 12, 44, 45] [(0, pt fi), (2, ι many), (3, ς UA nk uc), (10, ς c os.length d), (11, ι at_), (12, ι (at_ - 1)), (44, ς c os.length d), (45, ι (at_ - 1))] 2 ?_
  refine RunR.st (some 46) (.buildSlice 49 1 #[(0, .tmp 45)]) (Step.lit_nums hU 3 8 .i64 (ι 0) ([at_ - 1] : List Int) rfl rfl (by kernel_rfl) rfl rfl (by kernel_rfl) (fun s => ?_))
  have v : (([at_ - 1] : List Int)).length = 1 := rfl
  have t : (([at_ - 1] : List Int)).length = 1 := rfl
  refine RunR.st (some 47) (.call { callee := .builtin .append, args := #[.tmp 44, .tmp 46], argTypes := #[49, 49] }) (Step.append_nums hU 3 8 (ι 0) .i64 2 0 c os.length d os (ad s) 1 1 (κ 3 .i64 (ad s) 1 1 ([at_ - 1] : List Int)) ([at_ - 1] : List Int) rfl rfl rfl (by kernel_rfl) (by kernel_rfl) (by kernel_rfl) (by kernel_rfl) (tells_row _ _ _ _ _ _) (by rfl) (by rfl) (by omega) (by omega) (by kernel_rfl) (fun g f p j => ?_))
  have k : (os ++ ([at_ - 1] : List Int)).length = os.length + ([at_ - 1] : List Int).length := List.length_append
  simp only [List.length_cons, List.length_nil] at k
  refine RunR.sl hU [] 1 5 [0, 2, 3, 10, 11, 12] [(0, pt fi), (2, ι many), (3, ς UA nk uc), (10, ς g ((os ++ ([at_ - 1] : List Int)).length) f), (11, ι at_), (12, ι (at_ - 1))] 1 ?_
  refine RunR.nn ?_
  refine RunC.region ?_
  refine RunR.sl hU [] 3 3 [0, 2, 3, 10, 11, 12, 50] [(0, pt fi), (2, ι many), (3, ς UA nk uc), (10, ς g ((os ++ ([at_ - 1] : List Int)).length) f), (11, ι at_), (12, ι (at_ - 1)), (50, .pointer (some ⟨fi, 2, none⟩))] 3 ?_
  refine RunR.st (some 51) (.load 49 (.tmp 50)) (Step.load_blk hU 3 fi (2) 51 [pt wj, mv, ς NA nk nc, η dd] (ς NA nk nc) (by kernel_rfl) (by kernel_rfl) (by kernel_rfl) (by kernel_rfl) ?_)
  refine RunR.sil hU [] 2 6 [0, 2, 3, 10, 11, 53] [(0, pt fi), (2, ι many), (3, ς UA nk uc), (10, ς g ((os ++ ([at_ - 1] : List Int)).length) f), (11, ι at_), (53, .pointer (elemAt NA (at_ - 1) 1))] ((True) ∧ ((0 ≤ (at_ - 1) ∧ (at_ - 1) < (nk : Int)) ∧ Option.isSome NA = true) ∧ True) rfl (by kernel_rfl) ⟨trivial, ⟨by omega, hNA (by omega)⟩, trivial⟩ ?_
  refine RunR.st (some 54) (.load 3 (.tmp 53)) (Step.load_num hU 4 (κ 3 .i64 NA nk nc ns) NA (at_ - 1) .i64 ns rfl (by kernel_rfl) (by kernel_rfl) (tells_row _ _ _ _ _ _) (by kernel_rfl) (by omega) ?_)
  have q : 0 ≤ ns.getD ((at_ - 1).toNat) 0 ∧ ns.getD ((at_ - 1).toNat) 0 < 65536 := hins.at_ _
  refine RunR.sl hU [] 1 8 [0, 2, 3, 10, 11] [(0, pt fi), (2, ι many), (3, ς UA nk uc), (10, ς g ((os ++ ([at_ - 1] : List Int)).length) f), (11, ι (ns.getD (at_ - 1).toNat 0))] 1 ?_
  refine RunR.dn ?_
  refine kblock_n ?_
  refine kloop_n _ [0, 2, 3, 10, 11] [0, 1, 1, 1] [(0, pt fi), (2, ι many), (3, ς UA nk uc), (10, ς g ((os ++ ([at_ - 1] : List Int)).length) f), (11, ι (ns.getD (at_ - 1).toNat 0))] [κ 3 .i64 g ((os ++ ([at_ - 1] : List Int)).length) f (os ++ ([at_ - 1] : List Int)), row 4 1 (ς UA nk uc) nk (bls (e.set (at_ - 1).toNat true)), blk fi 51 [pt wj, mv, ς NA nk nc, η dd], κ 3 .i64 NA nk nc ns] (by kernel_rfl) (by kernel_rfl) ?_ ⟨(ns.getD (at_ - 1).toNat 0), (e.set (at_ - 1).toNat true), (os ++ ([at_ - 1] : List Int)), g, f, (by exact hins.at_ _), (by exact chain_step hC (by omega) ‹_› (by omega) (by omega) (by simpa using (by assumption : ¬ e.getD (at_ - 1).toNat false = true))), (by rw [List.length_append]; simp; omega), (by rw [List.length_set]; exact hu), (by exact hios.append (In.cons ⟨by omega, by omega⟩ (In.nil _))), ‹_›, (fun h => j (by exact h)), rfl, (by rfl), (by rfl)⟩
  show (many.toNat - (os ++ ([at_ - 1] : List Int)).length : Nat) < (many.toNat - os.length : Nat)
  omega
 refine RunC.exit ?_
 refine kseq_e ?_
 refine kloop_e ?_
 refine kblock_e ?_
 refine kseq_n ?_
 refine RunC.sr ?_
 refine RunR.sl hU [] 7 7 [8, 9] [(8, ς c os.length d), (9, η (decide ((os.length : Int) = many)))] 7 ?_
 refine RunR.nn ?_
 refine RunC.ret ?_
 refine kret_r [ς c os.length d, η (decide ((os.length : Int) = many))] [0, 1, 1, 0] [κ 3 .i64 c os.length d os, blk fi 51 [pt wj, mv, ς NA nk nc, η dd], κ 3 .i64 NA nk nc ns, row 4 1 (ς UA nk uc) nk (bls e)] ⟨rfl, rfl, trivial⟩ (by kernel_rfl) rfl ⟨c, d, os, (decide ((os.length : Int) = many)), e, rfl, rfl, (by rw [← chain_last hC (by omega) (by omega)]; congr 2; exact decide_eq_decide.2 (by omega)), ‹_›, ‹_›, ‹_›, ‹_›, ‹_›⟩
theorem fl_slot_spec (fi : Nat) (wj : Nat) (dd : Bool) (mp : Nat) (Fs : List Fe) (fc : Nat) (NA : Option Addr) (nk : Nat) (nc : Nat) (ns : List Int) (UA : Option Addr) (uc : Nat) (us : List Bool) (BA : Option Addr) (bc : Nat) (bs : List Int) (k : Int) (l_bs : Nat) (hFe : FeOK Fs) (hFm : FMOK Fs fc) (hnk : ns.length = nk) (hNA : 0 < nk → Option.isSome NA = true) (hnkc : nk ≤ nc) (huk : us.length = nk) (hUA : 0 < nk → Option.isSome UA = true) (hins : Bnd 0 65536 ns) (hkb : nk ≤ 2048) (hk : 0 ≤ k ∧ k < 64) (hIbs : In .u8 bs) (q : bs.length = 64) (hbc : bs.length ≤ bc) (hl_bs : bs.length = l_bs) :
 CallsS Try.prog 32 [pt fi, ς BA l_bs bc, ι k, ς UA nk uc] (ζ fi wj mp Fs fc NA nk nc ns dd [row 4 1 (ς UA nk uc) nk (bls us), ν .u8 BA bs]) (fun r D => ∃ (nm : ByteArray) (sl : Int) (sz : Int) (I : Option Addr) (M : Nat) (zs : List Int) (ok : Bool) (E : List Bool), r = .tuple #[.string nm, .agg #[ι sl, ι sz, ς I zs.length M], η ok] ∧ D = (κ 3 .i64 I zs.length M zs :: ζ fi wj mp Fs fc NA nk nc ns dd [row 4 1 (ς UA nk uc) nk (bls E)]) ∧ ((nm, sz, zs, ok, E) = slotP ns Fs us bs) ∧ (ok = true → sl = k) ∧ (E.length = nk) ∧ (In .i64 zs) ∧ (zs.length ≤ M) ∧ (0 < zs.length → Option.isSome I = true) ∧ (zs.length ≤ 2048) ∧ (0 ≤ sz ∧ sz ≤ 524288)) := by
 subst hl_bs
 refine CallsS.enter hU Try.f32 _ [.tmp 8, .cell 9 63, .tmp 10] 72 Try.func32 rfl (by decide) rfl rfl (by kernel_rfl) fun Z W => ?_
 refine RunC.know (p := 0 < bs.length → Option.isSome BA = true) (fun _ _ w hs => vw_some hs 4 rfl (by (simp [nums_length]; done))) (fun v => ?_)
 refine RunC.sr ?_
 refine RunR.sl hU [] 1 1 [0, 1, 2, 3, 8] [(0, pt fi), (1, ς BA bs.length bc), (2, ι k), (3, ς UA nk uc), (8, .string ⟨#[]⟩)] 1 ?_
 refine RunR.st (some 9) (.alloc 63) (Step.al hU 3 40 (.agg #[ι 0, ι 0, ς0]) (fun g => ?_))
 refine RunR.sl hU [] 1 3 [0, 1, 2, 3, 8, 9, 10] [(0, pt fi), (1, ς BA bs.length bc), (2, ι k), (3, ς UA nk uc), (8, .string ⟨#[]⟩), (9, pt g), (10, η false)] 1 ?_
 refine RunR.nx ?_
 refine RunR.sil hU [] 2 2 [0, 1, 2, 3, 8, 9, 10, 19] [(0, pt fi), (1, ς BA bs.length bc), (2, ι k), (3, ς UA nk uc), (8, .string ⟨#[]⟩), (9, pt g), (10, η false), (19, .pointer (elemAt BA 0 1))] ((True) ∧ ((0 ≤ (0 : Int) ∧ (0 : Int) < (bs.length : Int)) ∧ Option.isSome BA = true) ∧ True) rfl (by kernel_rfl) ⟨trivial, ⟨by omega, v (by omega)⟩, trivial⟩ ?_
 refine RunR.st (some 20) (.load 5 (.tmp 19)) (Step.load_num hU 5 (ν .u8 BA bs) BA 0 .u8 bs rfl (by kernel_rfl) (by kernel_rfl) (tells_vw _ _) (by kernel_rfl) (by omega) ?_)
 have k0 : 0 ≤ bs.getD ((0 : Int).toNat) 0 ∧ bs.getD ((0 : Int).toNat) 0 < 256 := hIbs.at_ _
 refine RunR.sil hU [3] 2 5 [0, 1, 2, 3, 8, 9, 10, 11] [(0, pt fi), (1, ς BA bs.length bc), (2, ι k), (3, ς UA nk uc), (8, .string ⟨#[]⟩), (9, pt g), (10, η false), (11, ι (bs.getD (0 : Int).toNat 0))] ((-9223372036854775808 ≤ (bs.getD (0 : Int).toNat 0) ∧ (bs.getD (0 : Int).toNat 0) < 9223372036854775808) ∧ (True) ∧ True) rfl (by kernel_rfl) ⟨(by omega), trivial, trivial⟩ ?_
 refine RunR.nx ?_
 refine RunR.sil hU [] 2 2 [0, 1, 2, 3, 8, 9, 10, 11, 23] [(0, pt fi), (1, ς BA bs.length bc), (2, ι k), (3, ς UA nk uc), (8, .string ⟨#[]⟩), (9, pt g), (10, η false), (11, ι (bs.getD (0 : Int).toNat 0)), (23, ς (subBase BA 44 bc 1) (bs.length - 44) (bc - 44))] ((True) ∧ (0 ≤ (44 : Int) ∧ (44 : Int) ≤ (bs.length : Int)) ∧ True) rfl (by kernel_rfl) ⟨trivial, (by omega), trivial⟩ ?_
 obtain ⟨j, n⟩ : ∃ z : List Int, z = (bs.drop 44).take (bs.length - 44) := ⟨_, rfl⟩
 have L : j.length = bs.length - 44 := by rw [n, List.length_take, List.length_drop]; omega
 have F : Tells (ν .u8 BA bs) (subBase BA 44 bc 1) (nums .u8 j) := by rw [n]; exact tells_sub_nums (tells_vw _ _) _ _ _ (by omega) (by omega)
 have j0 : 0 < j.length → Option.isSome (subBase BA 44 bc 1) = true := fun h => part_some (v (by omega)) _ _ _
 refine RunR.ev [0, 1, 2, 3, 8, 9, 10, 11, 23] [(0, pt fi), (1, ς BA bs.length bc), (2, ι k), (3, ς UA nk uc), (8, .string ⟨#[]⟩), (9, pt g), (10, η false), (11, ι (bs.getD (0 : Int).toNat 0)), (23, ς (subBase BA 44 bc 1) (bs.length - 44) (bc - 44))] ?_
 refine RunR.enveq [(0, pt fi), (1, ς BA bs.length bc), (2, ι k), (3, ς UA nk uc), (8, .string ⟨#[]⟩), (9, pt g), (10, η false), (11, ι (bs.getD (0 : Int).toNat 0)), (23, ς (subBase BA 44 bc 1) j.length (bc - 44))] (by rw [L]) ?_
 have G : In .u8 j := by rw [n]; exact (hIbs.drop _).take _
 refine RunR.st (some 24) (.call { callee := .value (.func 49), args := #[.tmp 23], argTypes := #[22] }) (Step.cl 49 [ς (subBase BA 44 bc 1) j.length (bc - 44)] [] [ν .u8 (subBase BA 44 bc 1) j] (blk g 63 [ι 0, ι 0, ς0] :: ζ fi wj mp Fs fc NA nk nc ns dd [row 4 1 (ς UA nk uc) nk (bls us), ν .u8 BA bs]) (w_Get32_spec (subBase BA 44 bc 1) (bc - 44) j j.length G (by omega) (by rfl)) [] ((Lend.nil _).tells 5 (ν .u8 BA bs) (subBase BA 44 bc 1) (nums .u8 j) (by kernel_rfl) (F)) ?_)
 rintro _ _ ⟨c, rfl, rfl, o, T⟩
 refine RunR.sil hU [3] 2 5 [0, 1, 2, 3, 8, 9, 10, 11, 12] [(0, pt fi), (1, ς BA bs.length bc), (2, ι k), (3, ς UA nk uc), (8, .string ⟨#[]⟩), (9, pt g), (10, η false), (11, ι (bs.getD (0 : Int).toNat 0)), (12, ι c)] ((-9223372036854775808 ≤ c ∧ c < 9223372036854775808) ∧ (True) ∧ True) rfl (by kernel_rfl) ⟨(by omega), trivial, trivial⟩ ?_
 refine RunR.nn ?_
 refine RunC.seq ?_
 refine RunC.sr ?_
 refine RunR.sl hU [] 3 3 [0, 1, 2, 3, 8, 9, 10, 11, 12, 28] [(0, pt fi), (1, ς BA bs.length bc), (2, ι k), (3, ς UA nk uc), (8, .string ⟨#[]⟩), (9, pt g), (10, η false), (11, ι (bs.getD (0 : Int).toNat 0)), (12, ι c), (28, η (decide ((bs.getD (0 : Int).toNat 0) > 40)))] 3 ?_
 refine RunR.ev [0, 1, 2, 3, 8, 9, 10, 11, 12, 28] [(0, pt fi), (1, ς BA bs.length bc), (2, ι k), (3, ς UA nk uc), (8, .string ⟨#[]⟩), (9, pt g), (10, η false), (11, ι (bs.getD (0 : Int).toNat 0)), (12, ι c), (28, η (decide ((bs.getD (0 : Int).toNat 0) > 40)))] ?_
 by_cases h14 : (bs.getD (0 : Int).toNat 0) > 40
 ·refine RunR.enveq [(0, pt fi), (1, ς BA bs.length bc), (2, ι k), (3, ς UA nk uc), (8, .string ⟨#[]⟩), (9, pt g), (10, η false), (11, ι (bs.getD (0 : Int).toNat 0)), (12, ι c), (28, η true)] (by rw [decide_eq_true h14]; try rfl) ?_
  refine RunR.sl hU [] 3 6 [0, 1, 2, 3, 8, 9, 10, 11, 12, 31] [(0, pt fi), (1, ς BA bs.length bc), (2, ι k), (3, ς UA nk uc), (8, .string ⟨#[]⟩), (9, pt g), (10, η false), (11, ι (bs.getD (0 : Int).toNat 0)), (12, ι c), (31, η true)] 1 ?_
  refine RunR.nn ?_
  refine RunC.cond (b := true) (by kernel_rfl) (fun _ => ?_) (fun h => by cases h)
  refine RunC.sr ?_
  refine RunR.sl hU [] 2 2 [0, 1, 2, 3, 8, 9, 10, 11, 12, 32] [(0, pt fi), (1, ς BA bs.length bc), (2, ι k), (3, ς UA nk uc), (8, .string ⟨#[]⟩), (9, pt g), (10, η false), (11, ι (bs.getD (0 : Int).toNat 0)), (12, ι c), (32, .agg #[ι 0, ι 0, ς0])] 2 ?_
  refine RunR.st none (.store 63 (.tmp 9) (.tmp 32)) (Step.store_blk hU 0 g 0 63 [ι 0, ι 0, ς0] (.agg #[ι 0, ι 0, ς0]) (by kernel_rfl) (by kernel_rfl) (by kernel_rfl) 3 rfl [ι 0, ι 0, ς0] (by kernel_rfl) rfl (by kernel_rfl) (by decide) ?_)
  refine RunR.sl hU [] 1 4 [0, 1, 2, 3, 8, 9, 10, 11, 12] [(0, pt fi), (1, ς BA bs.length bc), (2, ι k), (3, ς UA nk uc), (8, .string ⟨#[]⟩), (9, pt g), (10, η false), (11, ι (bs.getD (0 : Int).toNat 0)), (12, ι c)] 1 ?_
  refine RunR.nn ?_
  refine RunC.ret ?_
  refine kseq_r ?_
  refine kret_rt ((κ 3 .i64 none 0 0 ([] : List Int) :: blk g 63 [ι 0, ι 0, ς0] :: ζ fi wj mp Fs fc NA nk nc ns dd [row 4 1 (ς UA nk uc) nk (bls us), ν .u8 BA bs])) (fun Z W w hs => (hs).nil_row 3 1) [.string ⟨#[]⟩, .agg #[ι 0, ι 0, ς0], η false] [0, 1, 1, 1, 1] (κ 3 .i64 none 0 0 ([] : List Int) :: ζ fi wj mp Fs fc NA nk nc ns dd [row 4 1 (ς UA nk uc) nk (bls us)]) ⟨rfl, ⟨0, g, 0, 63, [ι 0, ι 0, ς0], rfl, rfl, by kernel_rfl⟩, rfl, trivial⟩ (by kernel_rfl) rfl ⟨⟨#[]⟩, 0, 0, none, 0, ([] : List Int), false, us, rfl, rfl, (by have C : 0 ≤ bs.getD 0 0 ∧ bs.getD 0 0 < 256 := hIbs.at_ 0; have hg_ : bs.getD (0 : Int).toNat 0 = bs.getD 0 0 := rfl; have hv_ := sz_is q n o; exact slot_bad (.inl (by omega))), (by intro h; cases h), ‹_›, (by exact In.nil _), (by exact Nat.le_refl _), (by intro h; simp at h), (by simp), (by omega)⟩
 refine RunR.enveq [(0, pt fi), (1, ς BA bs.length bc), (2, ι k), (3, ς UA nk uc), (8, .string ⟨#[]⟩), (9, pt g), (10, η false), (11, ι (bs.getD (0 : Int).toNat 0)), (12, ι c), (28, η false)] (by rw [decide_eq_false h14]; try rfl) ?_
 refine RunR.sl hU [] 3 6 [0, 1, 2, 3, 8, 9, 10, 11, 12, 31] [(0, pt fi), (1, ς BA bs.length bc), (2, ι k), (3, ς UA nk uc), (8, .string ⟨#[]⟩), (9, pt g), (10, η false), (11, ι (bs.getD (0 : Int).toNat 0)), (12, ι c), (31, η (decide (c > 524288)))] 3 ?_
 refine RunR.nn ?_
 refine RunC.condp (c > 524288) (by kernel_rfl) (fun N => ?_) (fun N => ?_)
 ·refine RunC.sr ?_
  refine RunR.sl hU [] 2 2 [0, 1, 2, 3, 8, 9, 10, 11, 12, 32] [(0, pt fi), (1, ς BA bs.length bc), (2, ι k), (3, ς UA nk uc), (8, .string ⟨#[]⟩), (9, pt g), (10, η false), (11, ι (bs.getD (0 : Int).toNat 0)), (12, ι c), (32, .agg #[ι 0, ι 0, ς0])] 2 ?_
  refine RunR.st none (.store 63 (.tmp 9) (.tmp 32)) (Step.store_blk hU 0 g 0 63 [ι 0, ι 0, ς0] (.agg #[ι 0, ι 0, ς0]) (by kernel_rfl) (by kernel_rfl) (by kernel_rfl) 3 rfl [ι 0, ι 0, ς0] (by kernel_rfl) rfl (by kernel_rfl) (by decide) ?_)
  refine RunR.sl hU [] 1 4 [0, 1, 2, 3, 8, 9, 10, 11, 12] [(0, pt fi), (1, ς BA bs.length bc), (2, ι k), (3, ς UA nk uc), (8, .string ⟨#[]⟩), (9, pt g), (10, η false), (11, ι (bs.getD (0 : Int).toNat 0)), (12, ι c)] 1 ?_
  refine RunR.nn ?_
  refine RunC.ret ?_
  refine kseq_r ?_
  refine kret_rt ((κ 3 .i64 none 0 0 ([] : List Int) :: blk g 63 [ι 0, ι 0, ς0] :: ζ fi wj mp Fs fc NA nk nc ns dd [row 4 1 (ς UA nk uc) nk (bls us), ν .u8 BA bs])) (fun Z W w hs => (hs).nil_row 3 1) [.string ⟨#[]⟩, .agg #[ι 0, ι 0, ς0], η false] [0, 1, 1, 1, 1] (κ 3 .i64 none 0 0 ([] : List Int) :: ζ fi wj mp Fs fc NA nk nc ns dd [row 4 1 (ς UA nk uc) nk (bls us)]) ⟨rfl, ⟨0, g, 0, 63, [ι 0, ι 0, ς0], rfl, rfl, by kernel_rfl⟩, rfl, trivial⟩ (by kernel_rfl) rfl ⟨⟨#[]⟩, 0, 0, none, 0, ([] : List Int), false, us, rfl, rfl, (by have C : 0 ≤ bs.getD 0 0 ∧ bs.getD 0 0 < 256 := hIbs.at_ 0; have hg_ : bs.getD (0 : Int).toNat 0 = bs.getD 0 0 := rfl; have hv_ := sz_is q n o; exact slot_bad (.inr (by rw [← hv_]; omega))), (by intro h; cases h), ‹_›, (by exact In.nil _), (by exact Nat.le_refl _), (by intro h; simp at h), (by simp), (by omega)⟩
 refine RunC.ksr ?_
 refine RunR.sil hU [2] 4 4 [0, 1, 2, 3, 8, 9, 10, 12, 36] [(0, pt fi), (1, ς BA bs.length bc), (2, ι k), (3, ς UA nk uc), (8, .string ⟨#[]⟩), (9, pt g), (10, η false), (12, ι c), (36, ς (subBase BA 1 bc 1) (((1 + (bs.getD (0 : Int).toNat 0)).toNat) - 1) (bc - 1))] ((True) ∧ (True) ∧ (-9223372036854775808 ≤ (1 + (bs.getD (0 : Int).toNat 0)) ∧ (1 + (bs.getD (0 : Int).toNat 0)) < 9223372036854775808) ∧ (0 ≤ (1 : Int) ∧ (1 : Int) ≤ (1 + (bs.getD (0 : Int).toNat 0)) ∧ (1 + (bs.getD (0 : Int).toNat 0)) ≤ (bc : Int)) ∧ True) rfl (by kernel_rfl) ⟨trivial, trivial, (by omega), (by omega), trivial⟩ ?_
 obtain ⟨a, m⟩ : ∃ z : List Int, z = (bs.drop 1).take (((1 + (bs.getD (0 : Int).toNat 0)).toNat) - 1) := ⟨_, rfl⟩
 have H : a.length = ((1 + (bs.getD (0 : Int).toNat 0)).toNat) - 1 := by rw [m, List.length_take, List.length_drop]; omega
 have A : Tells (ν .u8 BA bs) (subBase BA 1 bc 1) (nums .u8 a) := by rw [m]; exact tells_sub_nums (tells_vw _ _) _ _ _ (by omega) (by omega)
 have b0 : 0 < a.length → Option.isSome (subBase BA 1 bc 1) = true := fun h => part_some (v (by omega)) _ _ _
 refine RunR.ev [0, 1, 2, 3, 8, 9, 10, 12, 36] [(0, pt fi), (1, ς BA bs.length bc), (2, ι k), (3, ς UA nk uc), (8, .string ⟨#[]⟩), (9, pt g), (10, η false), (12, ι c), (36, ς (subBase BA 1 bc 1) (((1 + (bs.getD (0 : Int).toNat 0)).toNat) - 1) (bc - 1))] ?_
 refine RunR.enveq [(0, pt fi), (1, ς BA bs.length bc), (2, ι k), (3, ς UA nk uc), (8, .string ⟨#[]⟩), (9, pt g), (10, η false), (12, ι c), (36, ς (subBase BA 1 bc 1) a.length (bc - 1))] (by rw [H]) ?_
 have O : In .u8 a := by rw [m]; exact (hIbs.drop _).take _
 refine RunR.st (some 37) (.convert 22 9 (.tmp 36)) (Step.bytes_str hU 5 5 (ν .u8 BA bs) (subBase BA 1 bc 1) a.length (bc - 1) a rfl rfl rfl (by kernel_rfl) (by kernel_rfl) (A) (by rfl) (by kernel_rfl) ?_)
 refine RunR.sl hU [] 1 6 [0, 1, 2, 3, 8, 9, 10, 12, 13] [(0, pt fi), (1, ς BA bs.length bc), (2, ι k), (3, ς UA nk uc), (8, .string ⟨#[]⟩), (9, pt g), (10, η false), (12, ι c), (13, .string (strOfNums a))] 1 ?_
 refine RunR.nn ?_
 refine RunC.seq ?_
 refine RunC.regionU hU 20 [ν .u8 BA bs] [5] [14, 19] (bm 20 0) (by kernel_rfl) (by kernel_rfl) (by kernel_rfl) ?_
 refine RunU.sl hU 0 (bm 20 1) 39 (pt fi) ?_
 refine RunU.sl hU 1 (bm 20 3) 40 (ς BA bs.length bc) ?_
 refine RunU.sil hU false 2 (bm 20 7) 41 (.pointer (elemAt BA 48 1)) ((0 ≤ (48 : Int) ∧ (48 : Int) < (bs.length : Int)) ∧ Option.isSome BA = true) (by kernel_rfl) ⟨by omega, v (by omega)⟩ (by kernel_rfl) (by kernel_rfl) (fun _ _ _ h => h) ?_
 refine RunU.rd 3 (bm 20 15) 42 (.load 5 (.tmp 41)) (.int .u8 (bs.getD (48 : Int).toNat 0)) [5] (Reads.load_num hU 0 (ν .u8 BA bs) BA 48 .u8 bs rfl (by kernel_rfl) (by kernel_rfl) (tells_vw _ _) (by omega)) ?_
 have d0 : 0 ≤ bs.getD ((48 : Int).toNat) 0 ∧ bs.getD ((48 : Int).toNat) 0 < 256 := hIbs.at_ _
 refine RunU.sil hU true 4 (bm 20 31) 43 (ι (bs.getD (48 : Int).toNat 0)) (-9223372036854775808 ≤ (bs.getD (48 : Int).toNat 0) ∧ (bs.getD (48 : Int).toNat 0) < 9223372036854775808) (by kernel_rfl) (by omega) (by kernel_rfl) (by kernel_rfl) (fun _ _ _ h => h) ?_
 refine RunU.sl hU 5 (bm 20 63) 44 (ς BA bs.length bc) ?_
 refine RunU.sil hU false 6 (bm 20 127) 45 (.pointer (elemAt BA 49 1)) ((0 ≤ (49 : Int) ∧ (49 : Int) < (bs.length : Int)) ∧ Option.isSome BA = true) (by kernel_rfl) ⟨by omega, v (by omega)⟩ (by kernel_rfl) (by kernel_rfl) (fun _ _ _ h => h) ?_
 refine RunU.rd 7 (bm 20 255) 46 (.load 5 (.tmp 45)) (.int .u8 (bs.getD (49 : Int).toNat 0)) [5] (Reads.load_num hU 0 (ν .u8 BA bs) BA 49 .u8 bs rfl (by kernel_rfl) (by kernel_rfl) (tells_vw _ _) (by omega)) ?_
 have h0 : 0 ≤ bs.getD ((49 : Int).toNat) 0 ∧ bs.getD ((49 : Int).toNat) 0 < 256 := hIbs.at_ _
 refine RunU.sil hU true 8 (bm 20 511) 47 (ι (bs.getD (49 : Int).toNat 0)) (-9223372036854775808 ≤ (bs.getD (49 : Int).toNat 0) ∧ (bs.getD (49 : Int).toNat 0) < 9223372036854775808) (by kernel_rfl) (by omega) (by kernel_rfl) (by kernel_rfl) (fun _ _ _ h => h) ?_
 refine RunU.sil hU true 9 (bm 20 1023) 48 (ι ((bs.getD (49 : Int).toNat 0) * 2 ^ 8)) (0 ≤ (8 : Int) ∧ -9223372036854775808 ≤ ((bs.getD (49 : Int).toNat 0) * 2 ^ 8) ∧ ((bs.getD (49 : Int).toNat 0) * 2 ^ 8) < 9223372036854775808) (by kernel_rfl) (by omega) (by kernel_rfl) (by kernel_rfl) (fun _ _ _ h => h) ?_
 refine RunU.sl hU 10 (bm 20 2047) 49 (ι (bits2 .or .i64 (bs.getD (48 : Int).toNat 0) ((bs.getD (49 : Int).toNat 0) * 2 ^ 8))) ?_
 refine RunU.sl hU 11 (bm 20 4095) 50 (ι c) ?_
 refine RunU.sl hU 13 (bm 20 12287) 52 (ς UA nk uc) ?_
 refine RunU.on (some 51) (.call { callee := .value (.func 33), args := #[.tmp 50], argTypes := #[3] }) 12 (bm 20 16383) [5] (Step.cn 33 [ι c] [] (blk g 63 [ι 0, ι 0, ς0] :: ζ fi wj mp Fs fc NA nk nc ns dd [row 4 1 (ς UA nk uc) nk (bls us), ν .u8 BA bs]) (fl_need_spec c (by omega)) [] ?_)
 rintro _ _ ⟨rfl, rfl, P⟩
 refine orL ?_
 refine RunU.on (some 53) (.call { callee := .value (.func 53), args := #[.tmp 39, .tmp 49, .tmp 51, .tmp 52], argTypes := #[24, 3, 3, 78] }) 14 (bm 20 32767) [] (Step.cn 53 [pt fi, ι (bits2 .or .i64 (bs.getD (48 : Int).toNat 0) ((bs.getD (49 : Int).toNat 0) * 2 ^ 8)), ι (need c), ς UA nk uc] [blk fi 51 [pt wj, .map (some mp), ς NA nk nc, η dd], κ 3 .i64 NA nk nc ns, row 4 1 (ς UA nk uc) nk (bls us)] [blk g 63 [ι 0, ι 0, ς0], mpf mp (Fs.map feM) fc, ν .u8 BA bs] (fl_chain_spec fi wj (.map (some mp)) dd NA nk nc ns UA uc us (bits2 .or .i64 (bs.getD (48 : Int).toNat 0) ((bs.getD (49 : Int).toNat 0) * 2 ^ 8)) (need c) ‹_› (fun h => hNA (by exact h)) ‹_› ‹_› (fun h => hUA (by exact h)) ‹_› ‹_› (by exact first_bd hIbs _ _) (by unfold need; omega)) [1, 2, 2] ?_)
 rintro _ _ ⟨e, f, d, i, l, rfl, rfl, B, Y, g0, V, c0, e0⟩
 refine orR ?_
 refine RunU.sl hU 15 (bm 20 65535) 38 (.tuple #[ς e d.length f, η i]) ?_
 refine RunU.sl hU 16 (bm 20 131071) 54 (ς e d.length f) ?_
 refine RunU.sl hU 17 (bm 20 262143) 55 (η i) ?_
 refine RunU.sl hU 18 (bm 20 524287) 14 (ς e d.length f) ?_
 refine RunU.sl hU 19 (bm 20 1048575) 15 (η i) ?_
 refine RunU.ev [0, 2, 8, 9, 10, 12, 13, 14, 15] [(0, pt fi), (2, ι k), (8, .string ⟨#[]⟩), (9, pt g), (10, η false), (12, ι c), (13, .string (strOfNums a)), (14, ς e d.length f), (15, η i)] ?_
 refine RunU.dn ?_
 refine kseq_n ?_
 refine RunC.seq ?_
 refine RunC.sr ?_
 refine RunR.sl hU [] 3 3 [2, 8, 9, 10, 12, 13, 14, 15, 59] [(2, ι k), (8, .string ⟨#[]⟩), (9, pt g), (10, η false), (12, ι c), (13, .string (strOfNums a)), (14, ς e d.length f), (15, η i), (59, .pointer (some ⟨fi, 1, none⟩))] 3 ?_
 refine RunR.st (some 60) (.load 48 (.tmp 59)) (Step.load_blk hU 1 fi (1) 51 [pt wj, .map (some mp), ς NA nk nc, η dd] (.map (some mp)) (by kernel_rfl) (by kernel_rfl) (by kernel_rfl) (by kernel_rfl) ?_)
 refine RunR.sl hU [] 1 5 [2, 8, 9, 10, 12, 13, 14, 15, 60, 61] [(2, ι k), (8, .string ⟨#[]⟩), (9, pt g), (10, η false), (12, ι c), (13, .string (strOfNums a)), (14, ς e d.length f), (15, η i), (60, .map (some mp)), (61, .string (strOfNums a))] 1 ?_
 refine RunR.st (some 62) (.lookup 48 (.tmp 60) (.tmp 61) true) (Step.lookupFe hU 5 9 63 mp fc 3 40 Fs (strOfNums a) (by kernel_rfl) (by kernel_rfl) (by kernel_rfl) (by kernel_rfl) (by kernel_rfl) (by kernel_rfl) (by assumption : FeOK Fs) (by kernel_rfl) (fun s x u y t R f0 Q X S a0 i0 => ?_))
 refine RunR.sl hU [] 3 9 [2, 8, 9, 10, 12, 13, 14, 15, 63, 64] [(2, ι k), (8, .string ⟨#[]⟩), (9, pt g), (10, η false), (12, ι c), (13, .string (strOfNums a)), (14, ς e d.length f), (15, η i), (63, .agg #[ι s, ι x, ς u t.length y]), (64, η (fhas Fs (strOfNums a)))] 3 ?_
 refine RunR.st (some 16) (.alloc 63) (Step.al hU 3 40 (.agg #[ι 0, ι 0, ς0]) (fun J => ?_))
 refine RunR.st none (.store 63 (.tmp 16) (.tmp 63)) (Step.store_blk hU 0 J 0 63 [ι 0, ι 0, ς0] (.agg #[ι s, ι x, ς u t.length y]) (by kernel_rfl) (by kernel_rfl) (by kernel_rfl) 3 rfl [ι s, ι x, ς u t.length y] (by kernel_rfl) rfl (by kernel_rfl) (by decide) ?_)
 refine RunR.sl hU [] 1 12 [2, 8, 9, 10, 12, 13, 14, 15, 17] [(2, ι k), (8, .string ⟨#[]⟩), (9, pt g), (10, η false), (12, ι c), (13, .string (strOfNums a)), (14, ς e d.length f), (15, η i), (17, η (fhas Fs (strOfNums a)))] 1 ?_
 refine RunR.nx ?_
 refine RunR.sl hU [] 1 1 [2, 8, 9, 10, 12, 13, 14, 15, 65] [(2, ι k), (8, .string ⟨#[]⟩), (9, pt g), (10, η false), (12, ι c), (13, .string (strOfNums a)), (14, ς e d.length f), (15, η i), (65, η (fhas Fs (strOfNums a)))] 1 ?_
 refine RunR.nn ?_
 refine RunC.cond (b := fhas Fs (strOfNums a)) (by kernel_rfl) (fun K => ?_) (fun K => ?_)
 ·refine RunC.region ?_
  refine RunR.sl hU [] 1 1 [2, 8, 9, 10, 12, 13, 14, 15] [(2, ι k), (8, .string ⟨#[]⟩), (9, pt g), (10, η false), (12, ι c), (13, .string (strOfNums a)), (14, ς e d.length f), (15, η false)] 1 ?_
  refine RunR.nx ?_
  refine RunR.sl hU [] 7 7 [8, 9, 10, 70, 71] [(8, .string (strOfNums a)), (9, pt g), (10, η false), (70, .agg #[ι k, ι c, ς e d.length f]), (71, η false)] 7 ?_
  refine RunR.st none (.store 63 (.tmp 9) (.tmp 70)) (Step.store_blk hU 5 g 0 63 [ι 0, ι 0, ς0] (.agg #[ι k, ι c, ς e d.length f]) (by kernel_rfl) (by kernel_rfl) (by kernel_rfl) 3 rfl [ι k, ι c, ς e d.length f] (by kernel_rfl) rfl (by kernel_rfl) (by decide) ?_)
  refine RunR.sl hU [] 1 9 [8, 9, 10] [(8, .string (strOfNums a)), (9, pt g), (10, η false)] 1 ?_
  refine RunR.nn ?_
  refine RunC.ret ?_
  refine kret_r [.string (strOfNums a), .agg #[ι k, ι c, ς e d.length f], η false] [2, 2, 4, 2, 2] (κ 3 .i64 e d.length f d :: ζ fi wj mp Fs fc NA nk nc ns dd [row 4 1 (ς UA nk uc) nk (bls l)]) ⟨rfl, ⟨0, g, 0, 63, [ι k, ι c, ς e d.length f], rfl, rfl, by kernel_rfl⟩, rfl, trivial⟩ (by kernel_rfl) rfl ⟨(strOfNums a), k, c, e, f, d, false, l, rfl, rfl, (by have C : 0 ≤ bs.getD 0 0 ∧ bs.getD 0 0 < 256 := hIbs.at_ 0; have hg_ : bs.getD (0 : Int).toNat 0 = bs.getD 0 0 := rfl; have hv_ := sz_is q n o; exact slot_no (fun g_ => by rcases g_ with g_ | g_ <;> omega) B hv_ (or_u16 (hIbs.at_ _) (hIbs.at_ _)) (nm_is m) ‹_›), (by intro h; cases h), ‹_›, ‹_›, ‹_›, ‹_›, (by unfold need at *; omega), (by omega)⟩
 refine RunC.ksr ?_
 refine RunR.sl hU [] 7 7 [8, 9, 10, 70, 71] [(8, .string (strOfNums a)), (9, pt g), (10, η false), (70, .agg #[ι k, ι c, ς e d.length f]), (71, η i)] 7 ?_
 refine RunR.st none (.store 63 (.tmp 9) (.tmp 70)) (Step.store_blk hU 5 g 0 63 [ι 0, ι 0, ς0] (.agg #[ι k, ι c, ς e d.length f]) (by kernel_rfl) (by kernel_rfl) (by kernel_rfl) 3 rfl [ι k, ι c, ς e d.length f] (by kernel_rfl) rfl (by kernel_rfl) (by decide) ?_)
 refine RunR.sl hU [] 1 9 [8, 9, 10] [(8, .string (strOfNums a)), (9, pt g), (10, η i)] 1 ?_
 refine RunR.nn ?_
 refine RunC.ret ?_
 refine kret_r [.string (strOfNums a), .agg #[ι k, ι c, ς e d.length f], η i] [2, 2, 4, 2, 2] (κ 3 .i64 e d.length f d :: ζ fi wj mp Fs fc NA nk nc ns dd [row 4 1 (ς UA nk uc) nk (bls l)]) ⟨rfl, ⟨0, g, 0, 63, [ι k, ι c, ς e d.length f], rfl, rfl, by kernel_rfl⟩, rfl, trivial⟩ (by kernel_rfl) rfl ⟨(strOfNums a), k, c, e, f, d, i, l, rfl, rfl, (by have C : 0 ≤ bs.getD 0 0 ∧ bs.getD 0 0 < 256 := hIbs.at_ 0; have hg_ : bs.getD (0 : Int).toNat 0 = bs.getD 0 0 := rfl; have hv_ := sz_is q n o; exact slot_yes (fun g_ => by rcases g_ with g_ | g_ <;> omega) B hv_ (or_u16 (hIbs.at_ _) (hIbs.at_ _)) (nm_is m) ‹_›), (by intro _; rfl), ‹_›, ‹_›, ‹_›, ‹_›, (by unfold need at *; omega), (by omega)⟩
end Go.Proofs.Ytlibhidhfbecbaa.LFileOne
