import Derived.Test.YtlibhidhfbecbaaOnePure
import Derived.Test.YtlibhidhfbecbaaProg
import Derived.Test.YtlibhidhfbecbaaX7
namespace Go.Proofs.Ytlibhidhfbecbaa.LFileOne
open Go Go.Proofs.Ytlibhidhfbecbaa.SL Go.Proofs.Ytlibhidhfbecbaa.SL.W Go.Proofs.Ytlibhidhfbecbaa.SL.D Go.Proofs.Ytlibhidhfbecbaa.SL.I Go.Proofs.Ytlibhidhfbecbaa.XT
set_option linter.unusedVariables false
set_option linter.unusedSimpArgs false
set_option maxRecDepth 100000
set_option maxHeartbeats 40000000
theorem wl_phases2_spec (t : Nat) (d : Nat) (A : Option Addr) (n : Nat) (c : Nat) (ss : List Int) (Wa : Option Addr) (m : Nat) (wc : Nat) (ws : List Ch) (lf : Int) (dn : Bool) (La : Option Addr) (lm : Nat) (lc : Nat) (ls : List Ch) (Fa : Option Addr) (fc : Nat) (hss : In .u8 ss) (hnl : ss.length = n) (hnc : n ≤ c) (hAs : 0 < n → Option.isSome A = true) (M0 : n % 256 = 0) (hnb : n ≤ 557056) (hml : ws.length = m) (hmb : m ≤ 800000) (hok : ChOK .u8 ws) (hwk : WOK n ws) (hWs : 0 < m → Option.isSome Wa = true) (hlf : 0 ≤ lf ∧ lf < 9223372036854775808) (hll : ls.length = lm) (L0 : lm ≤ 40) (hlok : ChOK .u8 ls) (hbk : BOK n ls) (p0 : 256 * 43 ≤ n) :
 CallsS Try.prog 27 [pt t, ς Fa 2 fc] (blk t 75 [pt d, ς La lm lc] :: δ d A n c ss Wa m wc ws lf dn [vw Fa [.func (.func 28) #[pt t] #[], .func (.func 29) #[pt t] #[]], vw La (chV ls), vws (chL ls)]) (fun r D => ∃ (e : Int) (P : List Int) (Wb : Option Addr) (m2 : Nat) (f0 : Nat) (O : List Ch) (Q : Int) (a0 : Bool), r = ι e ∧ D = (blk t 75 [pt d, ς La lm lc] :: δ d A n c P Wb m2 f0 O Q a0 []) ∧ ((e, P, dat O, Q, a0) = phs n ss (dat ws) lf dn (openL (dat ls))) ∧ (In .u8 P) ∧ (P.length = n) ∧ (O.length = m2) ∧ (m2 ≤ m + 82) ∧ (ChOK .u8 O) ∧ (WOK n O) ∧ (0 < m2 → Option.isSome Wb = true) ∧ (0 ≤ Q ∧ Q < 9223372036854775808)) := by
 refine CallsS.enter hU Try.f27 _ [.tmp 4] 29 Try.func27 rfl (by decide) rfl rfl (by kernel_rfl) fun w0 W => ?_
 refine RunC.know (p := 0 < 2 → Option.isSome Fa = true) (fun _ _ w hs => vw_some hs 5 rfl (by (simp [nums_length]; done))) (fun X => ?_)
 refine RunC.know (p := 0 < ls.length * 2 → Option.isSome La = true) (fun _ _ w hs => vw_some hs 6 rfl (by exact chV_len _)) (fun N0 => ?_)
 refine RunC.sr ?_
 refine RunR.sl hU [] 1 1 [0, 1, 4] [(0, pt t), (1, ς Fa 2 fc), (4, ι 0)] 1 ?_
 refine RunR.nn ?_
 refine RunC.seq ?_
 refine RunC.sr ?_
 refine RunR.sl hU [] 3 3 [0, 4, 9, 10, 11] [(0, pt t), (4, ι 0), (9, ς Fa 2 fc), (10, ι 2), (11, ι 0)] 3 ?_
 refine RunR.nn ?_
 refine RunC.block ?_
 refine RunC.unroll 3 ?_
 refine RunC.sr ?_
 refine RunR.sl hU [] 1 1 [0, 4, 9, 10, 11, 12] [(0, pt t), (4, ι 0), (9, ς Fa 2 fc), (10, ι 2), (11, ι 0), (12, η true)] 1 ?_
 refine RunR.nn ?_
 refine RunC.seq ?_
 refine RunC.cond (b := true) (by kernel_rfl) (fun _ => ?_) (fun h => by cases h)
 refine RunC.ks ?_
 refine RunC.seq ?_
 refine RunC.block ?_
 refine RunC.sr ?_
 refine RunR.sil hU [] 1 1 [0, 4, 9, 10, 11, 13] [(0, pt t), (4, ι 0), (9, ς Fa 2 fc), (10, ι 2), (11, ι 0), (13, .pointer (elemAt Fa 0 1))] (((0 ≤ (0 : Int) ∧ (0 : Int) < (2 : Int)) ∧ Option.isSome Fa = true) ∧ True) rfl (by kernel_rfl) ⟨⟨by omega, X (by omega)⟩, trivial⟩ ?_
 refine RunR.st (some 14) (.load 57 (.tmp 13)) (Step.load_of hU 5 (vw Fa [.func (.func 28) #[pt t] #[], .func (.func 29) #[pt t] #[]]) Fa 0 1 [.func (.func 28) #[pt t] #[], .func (.func 29) #[pt t] #[]] (.func (.func 28) #[pt t] #[]) (by kernel_rfl) (by kernel_rfl) (tells_vw _ _) (by kernel_rfl) (by kernel_rfl) (by simp) ?_)
 refine RunR.sl hU [] 1 3 [0, 4, 6, 9, 10, 11] [(0, pt t), (4, ι 0), (6, .func (.func 28) #[pt t] #[]), (9, ς Fa 2 fc), (10, ι 2), (11, ι 0)] 1 ?_
 refine RunR.nn ?_
 refine RunC.seq ?_
 refine RunC.sr ?_
 refine RunR.sl hU [] 1 1 [0, 4, 9, 10, 11, 15] [(0, pt t), (4, ι 0), (9, ς Fa 2 fc), (10, ι 2), (11, ι 0), (15, .func (.func 28) #[pt t] #[])] 1 ?_
 refine RunR.st (some 16) (.call { callee := .value (.tmp 15), args := #[], argTypes := #[] }) (Step.cl 28 [pt t] (blk t 75 [pt d, ς La lm lc] :: δ d A n c ss Wa m wc ws lf dn []) [vw La (chV ls), vws (chL ls)] [vw Fa [.func (.func 28) #[pt t] #[], .func (.func 29) #[pt t] #[]], vw La (chV ls), vws (chL ls)] (wl_lay_spec t d A n c ss Wa m wc ws lf dn La lm lc ls hss ‹_› ‹_› (fun h => hAs (by exact h)) ‹_› ‹_› ‹_› (by omega) ‹_› ‹_› (fun h => hWs (by exact h)) ‹_› ‹_› ‹_› ‹_› ‹_› ‹_›) [0, 0, 0, 0, 0] (((Lend.nil _).same 2 (vws (chL ls)) (by kernel_rfl) rfl).tells 1 (vw La (chV ls)) La (chV ls) (by kernel_rfl) (tells_vw _ _)) ?_)
 rintro _ _ ⟨V, R, S, G, I, M, J, rfl, rfl, A0, E0, D0, j0, C0, b0, z0⟩
 refine RunR.sl hU [] 1 3 [0, 4, 7, 9, 10, 11] [(0, pt t), (4, ι 0), (7, ι V), (9, ς Fa 2 fc), (10, ι 2), (11, ι 0)] 1 ?_
 refine RunR.nx ?_
 refine RunR.sl hU [] 2 2 [0, 4, 7, 9, 10, 11, 18] [(0, pt t), (4, ι 0), (7, ι V), (9, ς Fa 2 fc), (10, ι 2), (11, ι 0), (18, η (!decide (V = 0)))] 2 ?_
 refine RunR.nn ?_
 refine RunC.condn (V = 0) (by kernel_rfl) (fun d0 => ?_) (fun d0 => ?_)
 ·refine RunC.sr ?_
  refine RunR.sl hU [] 2 2 [0, 4, 9, 10, 11] [(0, pt t), (4, ι V), (9, ς Fa 2 fc), (10, ι 2), (11, ι 0)] 2 ?_
  refine RunR.nn ?_
  refine RunC.ret ?_
  refine kseq_r ?_
  refine kblock_r ?_
  refine kseq_r ?_
  refine kround_r ?_
  refine kblock_r ?_
  refine kseq_r ?_
  refine kret_r [ι V] [0, 0, 0, 0, 0] (blk t 75 [pt d, ς La lm lc] :: δ d A n c ss R S G I M J []) ⟨rfl, trivial⟩ (by kernel_rfl) rfl ⟨V, ss, R, S, G, I, M, J, rfl, rfl, (by exact (phs_w ‹_› ‹_›)), ‹_›, ‹_›, ‹_›, (by omega), ‹_›, ‹_›, ‹_›, ‹_›⟩
 refine RunC.ksr ?_
 refine RunR.sl hU [] 3 3 [0, 4, 9, 10, 11, 22] [(0, pt t), (4, ι 0), (9, ς Fa 2 fc), (10, ι 2), (11, ι 0), (22, pt t)] 3 ?_
 refine RunR.st (some 23) (.load 26 (.tmp 22)) (Step.load_blk hU 0 t (0) 75 [pt d, ς La lm lc] (pt d) (by kernel_rfl) (by kernel_rfl) (by kernel_rfl) (by kernel_rfl) ?_)
 refine RunR.st (some 24) (.call { callee := .value (.func 51), args := #[.tmp 23], argTypes := #[26] }) (Step.cn 51 [pt d] (δ d A n c ss R S G I M J []) [blk t 75 [pt d, ς La lm lc], vw Fa [.func (.func 28) #[pt t] #[], .func (.func 29) #[pt t] #[]], vw La (chV ls), vws (chL ls)] (d_Sync_spec d A n c ss R S G I M J hss ‹_› ‹_› (fun h => hAs (by exact h)) ‹_› ‹_› ‹_› (by omega) ‹_› ‹_› (fun h => b0 (by exact h)) ‹_›) [1, 1, 1, 1] ?_)
 rintro _ _ ⟨B, a, H, N, s, q, i, u, rfl, rfl, I0, T, q0, n0, x0, J0, H0, Z, u0⟩
 refine RunR.sl hU [] 1 6 [0, 4, 8, 9, 10, 11] [(0, pt t), (4, ι 0), (8, ι B), (9, ς Fa 2 fc), (10, ι 2), (11, ι 0)] 1 ?_
 refine RunR.nx ?_
 refine RunR.sl hU [] 2 2 [0, 4, 8, 9, 10, 11, 26] [(0, pt t), (4, ι 0), (8, ι B), (9, ς Fa 2 fc), (10, ι 2), (11, ι 0), (26, η (!decide (B = 0)))] 2 ?_
 refine RunR.nn ?_
 refine RunC.condn (B = 0) (by kernel_rfl) (fun e0 => ?_) (fun e0 => ?_)
 ·refine RunC.sr ?_
  refine RunR.sl hU [] 2 2 [0, 4, 9, 10, 11] [(0, pt t), (4, ι B), (9, ς Fa 2 fc), (10, ι 2), (11, ι 0)] 2 ?_
  refine RunR.nn ?_
  refine RunC.ret ?_
  refine kblock_r ?_
  refine kseq_r ?_
  refine kround_r ?_
  refine kblock_r ?_
  refine kseq_r ?_
  refine kret_r [ι B] [4, 0, 0, 0, 0] (blk t 75 [pt d, ς La lm lc] :: δ d A n c a H N s q i u []) ⟨rfl, trivial⟩ (by kernel_rfl) rfl ⟨B, a, H, N, s, q, i, u, rfl, rfl, (by exact (phs_s ‹_› ‹_› ‹_› ‹_›)), ‹_›, ‹_›, ‹_›, (by omega), ‹_›, ‹_›, ‹_›, ‹_›⟩
 refine RunC.skip ?_
 refine kblock_n ?_
 refine kseq_n ?_
 refine RunC.region ?_
 refine RunR.sil hU [0] 2 2 [0, 4, 9, 10, 11] [(0, pt t), (4, ι 0), (9, ς Fa 2 fc), (10, ι 2), (11, ι 1)] ((-9223372036854775808 ≤ ((0 : Int) + 1) ∧ ((0 : Int) + 1) < 9223372036854775808) ∧ (True) ∧ True) rfl (by kernel_rfl) ⟨(by decide), trivial, trivial⟩ ?_
 refine RunR.dn ?_
 refine kround_n ?_
 refine RunC.sr ?_
 refine RunR.sl hU [] 1 1 [0, 4, 9, 10, 11, 12] [(0, pt t), (4, ι 0), (9, ς Fa 2 fc), (10, ι 2), (11, ι 1), (12, η true)] 1 ?_
 refine RunR.nn ?_
 refine RunC.seq ?_
 refine RunC.cond (b := true) (by kernel_rfl) (fun _ => ?_) (fun h => by cases h)
 refine RunC.ks ?_
 refine RunC.seq ?_
 refine RunC.block ?_
 refine RunC.sr ?_
 refine RunR.sil hU [] 1 1 [0, 4, 9, 10, 11, 13] [(0, pt t), (4, ι 0), (9, ς Fa 2 fc), (10, ι 2), (11, ι 1), (13, .pointer (elemAt Fa 1 1))] (((0 ≤ (1 : Int) ∧ (1 : Int) < (2 : Int)) ∧ Option.isSome Fa = true) ∧ True) rfl (by kernel_rfl) ⟨⟨by omega, X (by omega)⟩, trivial⟩ ?_
 refine RunR.st (some 14) (.load 57 (.tmp 13)) (Step.load_of hU 5 (vw Fa [.func (.func 28) #[pt t] #[], .func (.func 29) #[pt t] #[]]) Fa 1 1 [.func (.func 28) #[pt t] #[], .func (.func 29) #[pt t] #[]] (.func (.func 29) #[pt t] #[]) (by kernel_rfl) (by kernel_rfl) (tells_vw _ _) (by kernel_rfl) (by kernel_rfl) (by simp) ?_)
 refine RunR.sl hU [] 1 3 [0, 4, 6, 9, 10, 11] [(0, pt t), (4, ι 0), (6, .func (.func 29) #[pt t] #[]), (9, ς Fa 2 fc), (10, ι 2), (11, ι 1)] 1 ?_
 refine RunR.nn ?_
 refine RunC.seq ?_
 refine RunC.sr ?_
 refine RunR.sl hU [] 1 1 [0, 4, 9, 10, 11, 15] [(0, pt t), (4, ι 0), (9, ς Fa 2 fc), (10, ι 2), (11, ι 1), (15, .func (.func 29) #[pt t] #[])] 1 ?_
 refine RunR.st (some 16) (.call { callee := .value (.tmp 15), args := #[], argTypes := #[] }) (Step.cn 29 [pt t] (blk t 75 [pt d, ς La lm lc] :: δ d A n c a H N s q i u []) [vw Fa [.func (.func 28) #[pt t] #[], .func (.func 29) #[pt t] #[]], vw La (chV ls), vws (chL ls)] (wl_forget_spec t d A n c a H N s q i u La lm lc T ‹_› ‹_› (fun h => hAs (by exact h)) ‹_› ‹_› ‹_› (by omega) ‹_› ‹_› (fun h => Z (by exact h)) ‹_› ‹_›) [4, 0, 0, 0, 0] ?_)
 rintro _ _ ⟨z, F, L, o, g, x, l, rfl, rfl, K0, s0, o0, h0, t0, Y, v0⟩
 refine RunR.sl hU [] 1 3 [0, 4, 7, 9, 10, 11] [(0, pt t), (4, ι 0), (7, ι z), (9, ς Fa 2 fc), (10, ι 2), (11, ι 1)] 1 ?_
 refine RunR.nx ?_
 refine RunR.sl hU [] 2 2 [0, 4, 7, 9, 10, 11, 18] [(0, pt t), (4, ι 0), (7, ι z), (9, ς Fa 2 fc), (10, ι 2), (11, ι 1), (18, η (!decide (z = 0)))] 2 ?_
 refine RunR.nn ?_
 refine RunC.condn (z = 0) (by kernel_rfl) (fun c0 => ?_) (fun c0 => ?_)
 ·refine RunC.sr ?_
  refine RunR.sl hU [] 2 2 [0, 4, 9, 10, 11] [(0, pt t), (4, ι z), (9, ς Fa 2 fc), (10, ι 2), (11, ι 1)] 2 ?_
  refine RunR.nn ?_
  refine RunC.ret ?_
  refine kseq_r ?_
  refine kblock_r ?_
  refine kseq_r ?_
  refine kround_r ?_
  refine kblock_r ?_
  refine kseq_r ?_
  refine kret_r [ι z] [0, 0, 0, 0, 0] (blk t 75 [pt d, ς La lm lc] :: δ d A n c a F L o g x l []) ⟨rfl, trivial⟩ (by kernel_rfl) rfl ⟨z, a, F, L, o, g, x, l, rfl, rfl, (by exact (phs_k ‹_› ‹_› ‹_› ‹_› (phs_w ‹_› ‹_›))), ‹_›, ‹_›, ‹_›, (by omega), ‹_›, ‹_›, ‹_›, ‹_›⟩
 refine RunC.ksr ?_
 refine RunR.sl hU [] 3 3 [0, 4, 9, 10, 11, 22] [(0, pt t), (4, ι 0), (9, ς Fa 2 fc), (10, ι 2), (11, ι 1), (22, pt t)] 3 ?_
 refine RunR.st (some 23) (.load 26 (.tmp 22)) (Step.load_blk hU 0 t (0) 75 [pt d, ς La lm lc] (pt d) (by kernel_rfl) (by kernel_rfl) (by kernel_rfl) (by kernel_rfl) ?_)
 refine RunR.st (some 24) (.call { callee := .value (.func 51), args := #[.tmp 23], argTypes := #[26] }) (Step.cn 51 [pt d] (δ d A n c a F L o g x l []) [blk t 75 [pt d, ς La lm lc], vw Fa [.func (.func 28) #[pt t] #[], .func (.func 29) #[pt t] #[]], vw La (chV ls), vws (chL ls)] (d_Sync_spec d A n c a F L o g x l T ‹_› ‹_› (fun h => hAs (by exact h)) ‹_› ‹_› ‹_› (by omega) ‹_› ‹_› (fun h => Y (by exact h)) ‹_›) [1, 1, 1, 1] ?_)
 rintro _ _ ⟨C, y, K, E, f, v, k, j, rfl, rfl, G0, B0, k0, y0, i0, r0, m0, l0, F0⟩
 refine RunR.sl hU [] 1 6 [0, 4, 8, 9, 10, 11] [(0, pt t), (4, ι 0), (8, ι C), (9, ς Fa 2 fc), (10, ι 2), (11, ι 1)] 1 ?_
 refine RunR.nx ?_
 refine RunR.sl hU [] 2 2 [0, 4, 8, 9, 10, 11, 26] [(0, pt t), (4, ι 0), (8, ι C), (9, ς Fa 2 fc), (10, ι 2), (11, ι 1), (26, η (!decide (C = 0)))] 2 ?_
 refine RunR.nn ?_
 refine RunC.condn (C = 0) (by kernel_rfl) (fun g0 => ?_) (fun g0 => ?_)
 ·refine RunC.sr ?_
  refine RunR.sl hU [] 2 2 [0, 4, 9, 10, 11] [(0, pt t), (4, ι C), (9, ς Fa 2 fc), (10, ι 2), (11, ι 1)] 2 ?_
  refine RunR.nn ?_
  refine RunC.ret ?_
  refine kblock_r ?_
  refine kseq_r ?_
  refine kround_r ?_
  refine kblock_r ?_
  refine kseq_r ?_
  refine kret_r [ι C] [4, 0, 0, 0, 0] (blk t 75 [pt d, ς La lm lc] :: δ d A n c y K E f v k j []) ⟨rfl, trivial⟩ (by kernel_rfl) rfl ⟨C, y, K, E, f, v, k, j, rfl, rfl, (by exact (phs_k ‹_› ‹_› ‹_› ‹_› (phs_s ‹_› ‹_› ‹_› ‹_›))), ‹_›, ‹_›, ‹_›, (by omega), ‹_›, ‹_›, ‹_›, ‹_›⟩
 refine RunC.skip ?_
 refine kblock_n ?_
 refine kseq_n ?_
 refine RunC.region ?_
 refine RunR.sil hU [0] 2 2 [0, 4, 9, 10, 11] [(0, pt t), (4, ι 0), (9, ς Fa 2 fc), (10, ι 2), (11, ι 2)] ((-9223372036854775808 ≤ ((1 : Int) + 1) ∧ ((1 : Int) + 1) < 9223372036854775808) ∧ (True) ∧ True) rfl (by kernel_rfl) ⟨(by decide), trivial, trivial⟩ ?_
 refine RunR.dn ?_
 refine kround_n ?_
 refine RunC.sr ?_
 refine RunR.sl hU [] 1 1 [0, 4, 9, 10, 11, 12] [(0, pt t), (4, ι 0), (9, ς Fa 2 fc), (10, ι 2), (11, ι 2), (12, η false)] 1 ?_
 refine RunR.nn ?_
 refine RunC.seq ?_
 refine RunC.cond (b := false) (by kernel_rfl) (fun h => by cases h) (fun _ => ?_)
 refine RunC.exit ?_
 refine kseq_e ?_
 refine kround_e ?_
 refine kblock_e ?_
 refine kseq_n ?_
 refine RunC.sr ?_
 refine RunR.sl hU [] 1 1 [4] [(4, ι 0)] 1 ?_
 refine RunR.nn ?_
 refine RunC.ret ?_
 refine kret_r [ι 0] [4, 0, 0, 0, 0] (blk t 75 [pt d, ς La lm lc] :: δ d A n c y K E f v k j []) ⟨rfl, trivial⟩ (by kernel_rfl) rfl ⟨0, y, K, E, f, v, k, j, rfl, rfl, (by exact (phs_k ‹_› ‹_› ‹_› ‹_› (phs_k ‹_› ‹_› ‹_› ‹_› (phs_nil rfl)))), ‹_›, ‹_›, ‹_›, (by omega), ‹_›, ‹_›, ‹_›, ‹_›⟩
theorem wl_phases4_spec (t : Nat) (d : Nat) (A : Option Addr) (n : Nat) (c : Nat) (ss : List Int) (Wa : Option Addr) (m : Nat) (wc : Nat) (ws : List Ch) (lf : Int) (dn : Bool) (La : Option Addr) (lm : Nat) (lc : Nat) (ls : List Ch) (Fa : Option Addr) (fc : Nat) (hss : In .u8 ss) (hnl : ss.length = n) (hnc : n ≤ c) (hAs : 0 < n → Option.isSome A = true) (b2 : n % 256 = 0) (hnb : n ≤ 557056) (hml : ws.length = m) (hmb : m ≤ 800000) (hok : ChOK .u8 ws) (hwk : WOK n ws) (hWs : 0 < m → Option.isSome Wa = true) (hlf : 0 ≤ lf ∧ lf < 9223372036854775808) (hll : ls.length = lm) (a2 : lm ≤ 40) (hlok : ChOK .u8 ls) (hbk : BOK n ls) (w1 : 256 * 43 ≤ n) :
 CallsS Try.prog 27 [pt t, ς Fa 4 fc] (blk t 75 [pt d, ς La lm lc] :: δ d A n c ss Wa m wc ws lf dn [vw Fa [.func (.func 58) #[pt t] #[], .func (.func 59) #[pt t] #[], .func (.func 28) #[pt t] #[], .func (.func 29) #[pt t] #[]], vw La (chV ls), vws (chL ls)]) (fun r D => ∃ (e : Int) (x0 : List Int) (Wb : Option Addr) (m2 : Nat) (d1 : Nat) (u0 : List Ch) (y0 : Int) (L0 : Bool), r = ι e ∧ D = (blk t 75 [pt d, ς La lm lc] :: δ d A n c x0 Wb m2 d1 u0 y0 L0 []) ∧ ((e, x0, dat u0, y0, L0) = phs n ss (dat ws) lf dn (commitL (dat ls))) ∧ (In .u8 x0) ∧ (x0.length = n) ∧ (u0.length = m2) ∧ (m2 ≤ m + 82) ∧ (ChOK .u8 u0) ∧ (WOK n u0) ∧ (0 < m2 → Option.isSome Wb = true) ∧ (0 ≤ y0 ∧ y0 < 9223372036854775808)) := by
 refine CallsS.enter hU Try.f27 _ [.tmp 4] 29 Try.func27 rfl (by decide) rfl rfl (by kernel_rfl) fun w0 W => ?_
 refine RunC.know (p := 0 < 4 → Option.isSome Fa = true) (fun _ _ w hs => vw_some hs 5 rfl (by (simp [nums_length]; done))) (fun v0 => ?_)
 refine RunC.know (p := 0 < ls.length * 2 → Option.isSome La = true) (fun _ _ w hs => vw_some hs 6 rfl (by exact chV_len _)) (fun c2 => ?_)
 refine RunC.sr ?_
 refine RunR.sl hU [] 1 1 [0, 1, 4] [(0, pt t), (1, ς Fa 4 fc), (4, ι 0)] 1 ?_
 refine RunR.nn ?_
 refine RunC.seq ?_
 refine RunC.sr ?_
 refine RunR.sl hU [] 3 3 [0, 4, 9, 10, 11] [(0, pt t), (4, ι 0), (9, ς Fa 4 fc), (10, ι 4), (11, ι 0)] 3 ?_
 refine RunR.nn ?_
 refine RunC.block ?_
 refine RunC.unroll 5 ?_
 refine RunC.sr ?_
 refine RunR.sl hU [] 1 1 [0, 4, 9, 10, 11, 12] [(0, pt t), (4, ι 0), (9, ς Fa 4 fc), (10, ι 4), (11, ι 0), (12, η true)] 1 ?_
 refine RunR.nn ?_
 refine RunC.seq ?_
 refine RunC.cond (b := true) (by kernel_rfl) (fun _ => ?_) (fun h => by cases h)
 refine RunC.ks ?_
 refine RunC.seq ?_
 refine RunC.block ?_
 refine RunC.sr ?_
 refine RunR.sil hU [] 1 1 [0, 4, 9, 10, 11, 13] [(0, pt t), (4, ι 0), (9, ς Fa 4 fc), (10, ι 4), (11, ι 0), (13, .pointer (elemAt Fa 0 1))] (((0 ≤ (0 : Int) ∧ (0 : Int) < (4 : Int)) ∧ Option.isSome Fa = true) ∧ True) rfl (by kernel_rfl) ⟨⟨by omega, v0 (by omega)⟩, trivial⟩ ?_
 refine RunR.st (some 14) (.load 57 (.tmp 13)) (Step.load_of hU 5 (vw Fa [.func (.func 58) #[pt t] #[], .func (.func 59) #[pt t] #[], .func (.func 28) #[pt t] #[], .func (.func 29) #[pt t] #[]]) Fa 0 1 [.func (.func 58) #[pt t] #[], .func (.func 59) #[pt t] #[], .func (.func 28) #[pt t] #[], .func (.func 29) #[pt t] #[]] (.func (.func 58) #[pt t] #[]) (by kernel_rfl) (by kernel_rfl) (tells_vw _ _) (by kernel_rfl) (by kernel_rfl) (by simp) ?_)
 refine RunR.sl hU [] 1 3 [0, 4, 6, 9, 10, 11] [(0, pt t), (4, ι 0), (6, .func (.func 58) #[pt t] #[]), (9, ς Fa 4 fc), (10, ι 4), (11, ι 0)] 1 ?_
 refine RunR.nn ?_
 refine RunC.seq ?_
 refine RunC.sr ?_
 refine RunR.sl hU [] 1 1 [0, 4, 9, 10, 11, 15] [(0, pt t), (4, ι 0), (9, ς Fa 4 fc), (10, ι 4), (11, ι 0), (15, .func (.func 58) #[pt t] #[])] 1 ?_
 refine RunR.st (some 16) (.call { callee := .value (.tmp 15), args := #[], argTypes := #[] }) (Step.cl 58 [pt t] (blk t 75 [pt d, ς La lm lc] :: δ d A n c ss Wa m wc ws lf dn []) [vw La (chV ls), vws (chL ls)] [vw Fa [.func (.func 58) #[pt t] #[], .func (.func 59) #[pt t] #[], .func (.func 28) #[pt t] #[], .func (.func 29) #[pt t] #[]], vw La (chV ls), vws (chL ls)] (wl_log_spec t d A n c ss Wa m wc ws lf dn La lm lc ls hss ‹_› ‹_› (fun h => hAs (by exact h)) ‹_› ‹_› ‹_› (by omega) ‹_› ‹_› (fun h => hWs (by exact h)) ‹_› ‹_› ‹_› ‹_› ‹_› ‹_›) [0, 0, 0, 0, 0] (((Lend.nil _).same 2 (vws (chL ls)) (by kernel_rfl) rfl).tells 1 (vw La (chV ls)) La (chV ls) (by kernel_rfl) (tells_vw _ _)) ?_)
 rintro _ _ ⟨e3, z0, A0, i0, m0, r0, o0, rfl, rfl, H1, K1, J1, o1, I1, O0, G1⟩
 refine RunR.sl hU [] 1 3 [0, 4, 7, 9, 10, 11] [(0, pt t), (4, ι 0), (7, ι e3), (9, ς Fa 4 fc), (10, ι 4), (11, ι 0)] 1 ?_
 refine RunR.nx ?_
 refine RunR.sl hU [] 2 2 [0, 4, 7, 9, 10, 11, 18] [(0, pt t), (4, ι 0), (7, ι e3), (9, ς Fa 4 fc), (10, ι 4), (11, ι 0), (18, η (!decide (e3 = 0)))] 2 ?_
 refine RunR.nn ?_
 refine RunC.condn (e3 = 0) (by kernel_rfl) (fun Y0 => ?_) (fun Y0 => ?_)
 ·refine RunC.sr ?_
  refine RunR.sl hU [] 2 2 [0, 4, 9, 10, 11] [(0, pt t), (4, ι e3), (9, ς Fa 4 fc), (10, ι 4), (11, ι 0)] 2 ?_
  refine RunR.nn ?_
  refine RunC.ret ?_
  refine kseq_r ?_
  refine kblock_r ?_
  refine kseq_r ?_
  refine kround_r ?_
  refine kblock_r ?_
  refine kseq_r ?_
  refine kret_r [ι e3] [0, 0, 0, 0, 0] (blk t 75 [pt d, ς La lm lc] :: δ d A n c ss z0 A0 i0 m0 r0 o0 []) ⟨rfl, trivial⟩ (by kernel_rfl) rfl ⟨e3, ss, z0, A0, i0, m0, r0, o0, rfl, rfl, (by exact (phs_w ‹_› ‹_›)), ‹_›, ‹_›, ‹_›, (by omega), ‹_›, ‹_›, ‹_›, ‹_›⟩
 refine RunC.ksr ?_
 refine RunR.sl hU [] 3 3 [0, 4, 9, 10, 11, 22] [(0, pt t), (4, ι 0), (9, ς Fa 4 fc), (10, ι 4), (11, ι 0), (22, pt t)] 3 ?_
 refine RunR.st (some 23) (.load 26 (.tmp 22)) (Step.load_blk hU 0 t (0) 75 [pt d, ς La lm lc] (pt d) (by kernel_rfl) (by kernel_rfl) (by kernel_rfl) (by kernel_rfl) ?_)
 refine RunR.st (some 24) (.call { callee := .value (.func 51), args := #[.tmp 23], argTypes := #[26] }) (Step.cn 51 [pt d] (δ d A n c ss z0 A0 i0 m0 r0 o0 []) [blk t 75 [pt d, ς La lm lc], vw Fa [.func (.func 58) #[pt t] #[], .func (.func 59) #[pt t] #[], .func (.func 28) #[pt t] #[], .func (.func 29) #[pt t] #[]], vw La (chV ls), vws (chL ls)] (d_Sync_spec d A n c ss z0 A0 i0 m0 r0 o0 hss ‹_› ‹_› (fun h => hAs (by exact h)) ‹_› ‹_› ‹_› (by omega) ‹_› ‹_› (fun h => O0 (by exact h)) ‹_›) [1, 1, 1, 1] ?_)
 rintro _ _ ⟨e0, a, l0, s0, T, R, C, V, rfl, rfl, S1, B0, x1, u1, E1, W1, R1, K0, B1⟩
 refine RunR.sl hU [] 1 6 [0, 4, 8, 9, 10, 11] [(0, pt t), (4, ι 0), (8, ι e0), (9, ς Fa 4 fc), (10, ι 4), (11, ι 0)] 1 ?_
 refine RunR.nx ?_
 refine RunR.sl hU [] 2 2 [0, 4, 8, 9, 10, 11, 26] [(0, pt t), (4, ι 0), (8, ι e0), (9, ς Fa 4 fc), (10, ι 4), (11, ι 0), (26, η (!decide (e0 = 0)))] 2 ?_
 refine RunR.nn ?_
 refine RunC.condn (e0 = 0) (by kernel_rfl) (fun b1 => ?_) (fun b1 => ?_)
 ·refine RunC.sr ?_
  refine RunR.sl hU [] 2 2 [0, 4, 9, 10, 11] [(0, pt t), (4, ι e0), (9, ς Fa 4 fc), (10, ι 4), (11, ι 0)] 2 ?_
  refine RunR.nn ?_
  refine RunC.ret ?_
  refine kblock_r ?_
  refine kseq_r ?_
  refine kround_r ?_
  refine kblock_r ?_
  refine kseq_r ?_
  refine kret_r [ι e0] [4, 0, 0, 0, 0] (blk t 75 [pt d, ς La lm lc] :: δ d A n c a l0 s0 T R C V []) ⟨rfl, trivial⟩ (by kernel_rfl) rfl ⟨e0, a, l0, s0, T, R, C, V, rfl, rfl, (by exact (phs_s ‹_› ‹_› ‹_› ‹_›)), ‹_›, ‹_›, ‹_›, (by omega), ‹_›, ‹_›, ‹_›, ‹_›⟩
 refine RunC.skip ?_
 refine kblock_n ?_
 refine kseq_n ?_
 refine RunC.region ?_
 refine RunR.sil hU [0] 2 2 [0, 4, 9, 10, 11] [(0, pt t), (4, ι 0), (9, ς Fa 4 fc), (10, ι 4), (11, ι 1)] ((-9223372036854775808 ≤ ((0 : Int) + 1) ∧ ((0 : Int) + 1) < 9223372036854775808) ∧ (True) ∧ True) rfl (by kernel_rfl) ⟨(by decide), trivial, trivial⟩ ?_
 refine RunR.dn ?_
 refine kround_n ?_
 refine RunC.sr ?_
 refine RunR.sl hU [] 1 1 [0, 4, 9, 10, 11, 12] [(0, pt t), (4, ι 0), (9, ς Fa 4 fc), (10, ι 4), (11, ι 1), (12, η true)] 1 ?_
 refine RunR.nn ?_
 refine RunC.seq ?_
 refine RunC.cond (b := true) (by kernel_rfl) (fun _ => ?_) (fun h => by cases h)
 refine RunC.ks ?_
 refine RunC.seq ?_
 refine RunC.block ?_
 refine RunC.sr ?_
 refine RunR.sil hU [] 1 1 [0, 4, 9, 10, 11, 13] [(0, pt t), (4, ι 0), (9, ς Fa 4 fc), (10, ι 4), (11, ι 1), (13, .pointer (elemAt Fa 1 1))] (((0 ≤ (1 : Int) ∧ (1 : Int) < (4 : Int)) ∧ Option.isSome Fa = true) ∧ True) rfl (by kernel_rfl) ⟨⟨by omega, v0 (by omega)⟩, trivial⟩ ?_
 refine RunR.st (some 14) (.load 57 (.tmp 13)) (Step.load_of hU 5 (vw Fa [.func (.func 58) #[pt t] #[], .func (.func 59) #[pt t] #[], .func (.func 28) #[pt t] #[], .func (.func 29) #[pt t] #[]]) Fa 1 1 [.func (.func 58) #[pt t] #[], .func (.func 59) #[pt t] #[], .func (.func 28) #[pt t] #[], .func (.func 29) #[pt t] #[]] (.func (.func 59) #[pt t] #[]) (by kernel_rfl) (by kernel_rfl) (tells_vw _ _) (by kernel_rfl) (by kernel_rfl) (by simp) ?_)
 refine RunR.sl hU [] 1 3 [0, 4, 6, 9, 10, 11] [(0, pt t), (4, ι 0), (6, .func (.func 59) #[pt t] #[]), (9, ς Fa 4 fc), (10, ι 4), (11, ι 1)] 1 ?_
 refine RunR.nn ?_
 refine RunC.seq ?_
 refine RunC.sr ?_
 refine RunR.sl hU [] 1 1 [0, 4, 9, 10, 11, 15] [(0, pt t), (4, ι 0), (9, ς Fa 4 fc), (10, ι 4), (11, ι 1), (15, .func (.func 59) #[pt t] #[])] 1 ?_
 refine RunR.st (some 16) (.call { callee := .value (.tmp 15), args := #[], argTypes := #[] }) (Step.cl 59 [pt t] (blk t 75 [pt d, ς La lm lc] :: δ d A n c a l0 s0 T R C V []) [vw La (chV ls), vws (chL ls)] [vw Fa [.func (.func 58) #[pt t] #[], .func (.func 59) #[pt t] #[], .func (.func 28) #[pt t] #[], .func (.func 29) #[pt t] #[]], vw La (chV ls), vws (chL ls)] (wl_mark_spec t d A n c a l0 s0 T R C V La lm lc ls B0 ‹_› ‹_› (fun h => hAs (by exact h)) ‹_› ‹_› ‹_› (by omega) ‹_› ‹_› (fun h => K0 (by exact h)) ‹_› ‹_› ‹_› ‹_› ‹_› ‹_›) [4, 0, 0, 0, 0] (((Lend.nil _).same 2 (vws (chL ls)) (by kernel_rfl) rfl).tells 1 (vw La (chV ls)) La (chV ls) (by kernel_rfl) (tells_vw _ _)) ?_)
 rintro _ _ ⟨d0, h0, q0, L, B, Z, K, rfl, rfl, X1, z1, v1, m1, A1, J0, D1⟩
 refine RunR.sl hU [] 1 3 [0, 4, 7, 9, 10, 11] [(0, pt t), (4, ι 0), (7, ι d0), (9, ς Fa 4 fc), (10, ι 4), (11, ι 1)] 1 ?_
 refine RunR.nx ?_
 refine RunR.sl hU [] 2 2 [0, 4, 7, 9, 10, 11, 18] [(0, pt t), (4, ι 0), (7, ι d0), (9, ς Fa 4 fc), (10, ι 4), (11, ι 1), (18, η (!decide (d0 = 0)))] 2 ?_
 refine RunR.nn ?_
 refine RunC.condn (d0 = 0) (by kernel_rfl) (fun P0 => ?_) (fun P0 => ?_)
 ·refine RunC.sr ?_
  refine RunR.sl hU [] 2 2 [0, 4, 9, 10, 11] [(0, pt t), (4, ι d0), (9, ς Fa 4 fc), (10, ι 4), (11, ι 1)] 2 ?_
  refine RunR.nn ?_
  refine RunC.ret ?_
  refine kseq_r ?_
  refine kblock_r ?_
  refine kseq_r ?_
  refine kround_r ?_
  refine kblock_r ?_
  refine kseq_r ?_
  refine kret_r [ι d0] [0, 0, 0, 0, 0] (blk t 75 [pt d, ς La lm lc] :: δ d A n c a h0 q0 L B Z K []) ⟨rfl, trivial⟩ (by kernel_rfl) rfl ⟨d0, a, h0, q0, L, B, Z, K, rfl, rfl, (by exact (phs_k ‹_› ‹_› ‹_› ‹_› (phs_w ‹_› ‹_›))), ‹_›, ‹_›, ‹_›, (by omega), ‹_›, ‹_›, ‹_›, ‹_›⟩
 refine RunC.ksr ?_
 refine RunR.sl hU [] 3 3 [0, 4, 9, 10, 11, 22] [(0, pt t), (4, ι 0), (9, ς Fa 4 fc), (10, ι 4), (11, ι 1), (22, pt t)] 3 ?_
 refine RunR.st (some 23) (.load 26 (.tmp 22)) (Step.load_blk hU 0 t (0) 75 [pt d, ς La lm lc] (pt d) (by kernel_rfl) (by kernel_rfl) (by kernel_rfl) (by kernel_rfl) ?_)
 refine RunR.st (some 24) (.call { callee := .value (.func 51), args := #[.tmp 23], argTypes := #[26] }) (Step.cn 51 [pt d] (δ d A n c a h0 q0 L B Z K []) [blk t 75 [pt d, ς La lm lc], vw Fa [.func (.func 58) #[pt t] #[], .func (.func 59) #[pt t] #[], .func (.func 28) #[pt t] #[], .func (.func 29) #[pt t] #[]], vw La (chV ls), vws (chL ls)] (d_Sync_spec d A n c a h0 q0 L B Z K B0 ‹_› ‹_› (fun h => hAs (by exact h)) ‹_› ‹_› ‹_› (by omega) ‹_› ‹_› (fun h => J0 (by exact h)) ‹_›) [1, 1, 1, 1] ?_)
 rintro _ _ ⟨f0, g, p0, g0, z, X, G, F, rfl, rfl, N1, D0, p1, F1, n1, y1, t1, F0, L1⟩
 refine RunR.sl hU [] 1 6 [0, 4, 8, 9, 10, 11] [(0, pt t), (4, ι 0), (8, ι f0), (9, ς Fa 4 fc), (10, ι 4), (11, ι 1)] 1 ?_
 refine RunR.nx ?_
 refine RunR.sl hU [] 2 2 [0, 4, 8, 9, 10, 11, 26] [(0, pt t), (4, ι 0), (8, ι f0), (9, ς Fa 4 fc), (10, ι 4), (11, ι 1), (26, η (!decide (f0 = 0)))] 2 ?_
 refine RunR.nn ?_
 refine RunC.condn (f0 = 0) (by kernel_rfl) (fun e1 => ?_) (fun e1 => ?_)
 ·refine RunC.sr ?_
  refine RunR.sl hU [] 2 2 [0, 4, 9, 10, 11] [(0, pt t), (4, ι f0), (9, ς Fa 4 fc), (10, ι 4), (11, ι 1)] 2 ?_
  refine RunR.nn ?_
  refine RunC.ret ?_
  refine kblock_r ?_
  refine kseq_r ?_
  refine kround_r ?_
  refine kblock_r ?_
  refine kseq_r ?_
  refine kret_r [ι f0] [4, 0, 0, 0, 0] (blk t 75 [pt d, ς La lm lc] :: δ d A n c g p0 g0 z X G F []) ⟨rfl, trivial⟩ (by kernel_rfl) rfl ⟨f0, g, p0, g0, z, X, G, F, rfl, rfl, (by exact (phs_k ‹_› ‹_› ‹_› ‹_› (phs_s ‹_› ‹_› ‹_› ‹_›))), ‹_›, ‹_›, ‹_›, (by omega), ‹_›, ‹_›, ‹_›, ‹_›⟩
 refine RunC.skip ?_
 refine kblock_n ?_
 refine kseq_n ?_
 refine RunC.region ?_
 refine RunR.sil hU [0] 2 2 [0, 4, 9, 10, 11] [(0, pt t), (4, ι 0), (9, ς Fa 4 fc), (10, ι 4), (11, ι 2)] ((-9223372036854775808 ≤ ((1 : Int) + 1) ∧ ((1 : Int) + 1) < 9223372036854775808) ∧ (True) ∧ True) rfl (by kernel_rfl) ⟨(by decide), trivial, trivial⟩ ?_
 refine RunR.dn ?_
 refine kround_n ?_
 refine RunC.sr ?_
 refine RunR.sl hU [] 1 1 [0, 4, 9, 10, 11, 12] [(0, pt t), (4, ι 0), (9, ς Fa 4 fc), (10, ι 4), (11, ι 2), (12, η true)] 1 ?_
 refine RunR.nn ?_
 refine RunC.seq ?_
 refine RunC.cond (b := true) (by kernel_rfl) (fun _ => ?_) (fun h => by cases h)
 refine RunC.ks ?_
 refine RunC.seq ?_
 refine RunC.block ?_
 refine RunC.sr ?_
 refine RunR.sil hU [] 1 1 [0, 4, 9, 10, 11, 13] [(0, pt t), (4, ι 0), (9, ς Fa 4 fc), (10, ι 4), (11, ι 2), (13, .pointer (elemAt Fa 2 1))] (((0 ≤ (2 : Int) ∧ (2 : Int) < (4 : Int)) ∧ Option.isSome Fa = true) ∧ True) rfl (by kernel_rfl) ⟨⟨by omega, v0 (by omega)⟩, trivial⟩ ?_
 refine RunR.st (some 14) (.load 57 (.tmp 13)) (Step.load_of hU 5 (vw Fa [.func (.func 58) #[pt t] #[], .func (.func 59) #[pt t] #[], .func (.func 28) #[pt t] #[], .func (.func 29) #[pt t] #[]]) Fa 2 1 [.func (.func 58) #[pt t] #[], .func (.func 59) #[pt t] #[], .func (.func 28) #[pt t] #[], .func (.func 29) #[pt t] #[]] (.func (.func 28) #[pt t] #[]) (by kernel_rfl) (by kernel_rfl) (tells_vw _ _) (by kernel_rfl) (by kernel_rfl) (by simp) ?_)
 refine RunR.sl hU [] 1 3 [0, 4, 6, 9, 10, 11] [(0, pt t), (4, ι 0), (6, .func (.func 28) #[pt t] #[]), (9, ς Fa 4 fc), (10, ι 4), (11, ι 2)] 1 ?_
 refine RunR.nn ?_
 refine RunC.seq ?_
 refine RunC.sr ?_
 refine RunR.sl hU [] 1 1 [0, 4, 9, 10, 11, 15] [(0, pt t), (4, ι 0), (9, ς Fa 4 fc), (10, ι 4), (11, ι 2), (15, .func (.func 28) #[pt t] #[])] 1 ?_
 refine RunR.st (some 16) (.call { callee := .value (.tmp 15), args := #[], argTypes := #[] }) (Step.cl 28 [pt t] (blk t 75 [pt d, ς La lm lc] :: δ d A n c g p0 g0 z X G F []) [vw La (chV ls), vws (chL ls)] [vw Fa [.func (.func 58) #[pt t] #[], .func (.func 59) #[pt t] #[], .func (.func 28) #[pt t] #[], .func (.func 29) #[pt t] #[]], vw La (chV ls), vws (chL ls)] (wl_lay_spec t d A n c g p0 g0 z X G F La lm lc ls D0 ‹_› ‹_› (fun h => hAs (by exact h)) ‹_› ‹_› ‹_› (by omega) ‹_› ‹_› (fun h => F0 (by exact h)) ‹_› ‹_› ‹_› ‹_› ‹_› ‹_›) [4, 0, 0, 0, 0] (((Lend.nil _).same 2 (vws (chL ls)) (by kernel_rfl) rfl).tells 1 (vw La (chV ls)) La (chV ls) (by kernel_rfl) (tells_vw _ _)) ?_)
 rintro _ _ ⟨b0, j0, n0, a0, S, Q, I, rfl, rfl, s1, Z1, Q1, C1, P1, M0, O1⟩
 refine RunR.sl hU [] 1 3 [0, 4, 7, 9, 10, 11] [(0, pt t), (4, ι 0), (7, ι b0), (9, ς Fa 4 fc), (10, ι 4), (11, ι 2)] 1 ?_
 refine RunR.nx ?_
 refine RunR.sl hU [] 2 2 [0, 4, 7, 9, 10, 11, 18] [(0, pt t), (4, ι 0), (7, ι b0), (9, ς Fa 4 fc), (10, ι 4), (11, ι 2), (18, η (!decide (b0 = 0)))] 2 ?_
 refine RunR.nn ?_
 refine RunC.condn (b0 = 0) (by kernel_rfl) (fun W0 => ?_) (fun W0 => ?_)
 ·refine RunC.sr ?_
  refine RunR.sl hU [] 2 2 [0, 4, 9, 10, 11] [(0, pt t), (4, ι b0), (9, ς Fa 4 fc), (10, ι 4), (11, ι 2)] 2 ?_
  refine RunR.nn ?_
  refine RunC.ret ?_
  refine kseq_r ?_
  refine kblock_r ?_
  refine kseq_r ?_
  refine kround_r ?_
  refine kblock_r ?_
  refine kseq_r ?_
  refine kret_r [ι b0] [0, 0, 0, 0, 0] (blk t 75 [pt d, ς La lm lc] :: δ d A n c g j0 n0 a0 S Q I []) ⟨rfl, trivial⟩ (by kernel_rfl) rfl ⟨b0, g, j0, n0, a0, S, Q, I, rfl, rfl, (by exact (phs_k ‹_› ‹_› ‹_› ‹_› (phs_k ‹_› ‹_› ‹_› ‹_› (phs_w ‹_› ‹_›)))), ‹_›, ‹_›, ‹_›, (by omega), ‹_›, ‹_›, ‹_›, ‹_›⟩
 refine RunC.ksr ?_
 refine RunR.sl hU [] 3 3 [0, 4, 9, 10, 11, 22] [(0, pt t), (4, ι 0), (9, ς Fa 4 fc), (10, ι 4), (11, ι 2), (22, pt t)] 3 ?_
 refine RunR.st (some 23) (.load 26 (.tmp 22)) (Step.load_blk hU 0 t (0) 75 [pt d, ς La lm lc] (pt d) (by kernel_rfl) (by kernel_rfl) (by kernel_rfl) (by kernel_rfl) ?_)
 refine RunR.st (some 24) (.call { callee := .value (.func 51), args := #[.tmp 23], argTypes := #[26] }) (Step.cn 51 [pt d] (δ d A n c g j0 n0 a0 S Q I []) [blk t 75 [pt d, ς La lm lc], vw Fa [.func (.func 58) #[pt t] #[], .func (.func 59) #[pt t] #[], .func (.func 28) #[pt t] #[], .func (.func 29) #[pt t] #[]], vw La (chV ls), vws (chL ls)] (d_Sync_spec d A n c g j0 n0 a0 S Q I D0 ‹_› ‹_› (fun h => hAs (by exact h)) ‹_› ‹_› ‹_› (by omega) ‹_› ‹_› (fun h => M0 (by exact h)) ‹_›) [1, 1, 1, 1] ?_)
 rintro _ _ ⟨c0, f, t0, k0, N, P, Y, H, rfl, rfl, r1, C0, M1, T1, Y1, q1, V1, H0, i1⟩
 refine RunR.sl hU [] 1 6 [0, 4, 8, 9, 10, 11] [(0, pt t), (4, ι 0), (8, ι c0), (9, ς Fa 4 fc), (10, ι 4), (11, ι 2)] 1 ?_
 refine RunR.nx ?_
 refine RunR.sl hU [] 2 2 [0, 4, 8, 9, 10, 11, 26] [(0, pt t), (4, ι 0), (8, ι c0), (9, ς Fa 4 fc), (10, ι 4), (11, ι 2), (26, η (!decide (c0 = 0)))] 2 ?_
 refine RunR.nn ?_
 refine RunC.condn (c0 = 0) (by kernel_rfl) (fun N0 => ?_) (fun N0 => ?_)
 ·refine RunC.sr ?_
  refine RunR.sl hU [] 2 2 [0, 4, 9, 10, 11] [(0, pt t), (4, ι c0), (9, ς Fa 4 fc), (10, ι 4), (11, ι 2)] 2 ?_
  refine RunR.nn ?_
  refine RunC.ret ?_
  refine kblock_r ?_
  refine kseq_r ?_
  refine kround_r ?_
  refine kblock_r ?_
  refine kseq_r ?_
  refine kret_r [ι c0] [4, 0, 0, 0, 0] (blk t 75 [pt d, ς La lm lc] :: δ d A n c f t0 k0 N P Y H []) ⟨rfl, trivial⟩ (by kernel_rfl) rfl ⟨c0, f, t0, k0, N, P, Y, H, rfl, rfl, (by exact (phs_k ‹_› ‹_› ‹_› ‹_› (phs_k ‹_› ‹_› ‹_› ‹_› (phs_s ‹_› ‹_› ‹_› ‹_›)))), ‹_›, ‹_›, ‹_›, (by omega), ‹_›, ‹_›, ‹_›, ‹_›⟩
 refine RunC.skip ?_
 refine kblock_n ?_
 refine kseq_n ?_
 refine RunC.region ?_
 refine RunR.sil hU [0] 2 2 [0, 4, 9, 10, 11] [(0, pt t), (4, ι 0), (9, ς Fa 4 fc), (10, ι 4), (11, ι 3)] ((-9223372036854775808 ≤ ((2 : Int) + 1) ∧ ((2 : Int) + 1) < 9223372036854775808) ∧ (True) ∧ True) rfl (by kernel_rfl) ⟨(by decide), trivial, trivial⟩ ?_
 refine RunR.dn ?_
 refine kround_n ?_
 refine RunC.sr ?_
 refine RunR.sl hU [] 1 1 [0, 4, 9, 10, 11, 12] [(0, pt t), (4, ι 0), (9, ς Fa 4 fc), (10, ι 4), (11, ι 3), (12, η true)] 1 ?_
 refine RunR.nn ?_
 refine RunC.seq ?_
 refine RunC.cond (b := true) (by kernel_rfl) (fun _ => ?_) (fun h => by cases h)
 refine RunC.ks ?_
 refine RunC.seq ?_
 refine RunC.block ?_
 refine RunC.sr ?_
 refine RunR.sil hU [] 1 1 [0, 4, 9, 10, 11, 13] [(0, pt t), (4, ι 0), (9, ς Fa 4 fc), (10, ι 4), (11, ι 3), (13, .pointer (elemAt Fa 3 1))] (((0 ≤ (3 : Int) ∧ (3 : Int) < (4 : Int)) ∧ Option.isSome Fa = true) ∧ True) rfl (by kernel_rfl) ⟨⟨by omega, v0 (by omega)⟩, trivial⟩ ?_
 refine RunR.st (some 14) (.load 57 (.tmp 13)) (Step.load_of hU 5 (vw Fa [.func (.func 58) #[pt t] #[], .func (.func 59) #[pt t] #[], .func (.func 28) #[pt t] #[], .func (.func 29) #[pt t] #[]]) Fa 3 1 [.func (.func 58) #[pt t] #[], .func (.func 59) #[pt t] #[], .func (.func 28) #[pt t] #[], .func (.func 29) #[pt t] #[]] (.func (.func 29) #[pt t] #[]) (by kernel_rfl) (by kernel_rfl) (tells_vw _ _) (by kernel_rfl) (by kernel_rfl) (by simp) ?_)
 refine RunR.sl hU [] 1 3 [0, 4, 6, 9, 10, 11] [(0, pt t), (4, ι 0), (6, .func (.func 29) #[pt t] #[]), (9, ς Fa 4 fc), (10, ι 4), (11, ι 3)] 1 ?_
 refine RunR.nn ?_
 refine RunC.seq ?_
 refine RunC.sr ?_
 refine RunR.sl hU [] 1 1 [0, 4, 9, 10, 11, 15] [(0, pt t), (4, ι 0), (9, ς Fa 4 fc), (10, ι 4), (11, ι 3), (15, .func (.func 29) #[pt t] #[])] 1 ?_
 refine RunR.st (some 16) (.call { callee := .value (.tmp 15), args := #[], argTypes := #[] }) (Step.cn 29 [pt t] (blk t 75 [pt d, ς La lm lc] :: δ d A n c f t0 k0 N P Y H []) [vw Fa [.func (.func 58) #[pt t] #[], .func (.func 59) #[pt t] #[], .func (.func 28) #[pt t] #[], .func (.func 29) #[pt t] #[]], vw La (chV ls), vws (chL ls)] (wl_forget_spec t d A n c f t0 k0 N P Y H La lm lc C0 ‹_› ‹_› (fun h => hAs (by exact h)) ‹_› ‹_› ‹_› (by omega) ‹_› ‹_› (fun h => H0 (by exact h)) ‹_› ‹_›) [4, 0, 0, 0, 0] ?_)
 rintro _ _ ⟨x, M, J, k, j, i, v, rfl, rfl, Z0, l1, V0, R0, j1, E0, g1⟩
 refine RunR.sl hU [] 1 3 [0, 4, 7, 9, 10, 11] [(0, pt t), (4, ι 0), (7, ι x), (9, ς Fa 4 fc), (10, ι 4), (11, ι 3)] 1 ?_
 refine RunR.nx ?_
 refine RunR.sl hU [] 2 2 [0, 4, 7, 9, 10, 11, 18] [(0, pt t), (4, ι 0), (7, ι x), (9, ς Fa 4 fc), (10, ι 4), (11, ι 3), (18, η (!decide (x = 0)))] 2 ?_
 refine RunR.nn ?_
 refine RunC.condn (x = 0) (by kernel_rfl) (fun G0 => ?_) (fun G0 => ?_)
 ·refine RunC.sr ?_
  refine RunR.sl hU [] 2 2 [0, 4, 9, 10, 11] [(0, pt t), (4, ι x), (9, ς Fa 4 fc), (10, ι 4), (11, ι 3)] 2 ?_
  refine RunR.nn ?_
  refine RunC.ret ?_
  refine kseq_r ?_
  refine kblock_r ?_
  refine kseq_r ?_
  refine kround_r ?_
  refine kblock_r ?_
  refine kseq_r ?_
  refine kret_r [ι x] [0, 0, 0, 0, 0] (blk t 75 [pt d, ς La lm lc] :: δ d A n c f M J k j i v []) ⟨rfl, trivial⟩ (by kernel_rfl) rfl ⟨x, f, M, J, k, j, i, v, rfl, rfl, (by exact (phs_k ‹_› ‹_› ‹_› ‹_› (phs_k ‹_› ‹_› ‹_› ‹_› (phs_k ‹_› ‹_› ‹_› ‹_› (phs_w ‹_› ‹_›))))), ‹_›, ‹_›, ‹_›, (by omega), ‹_›, ‹_›, ‹_›, ‹_›⟩
 refine RunC.ksr ?_
 refine RunR.sl hU [] 3 3 [0, 4, 9, 10, 11, 22] [(0, pt t), (4, ι 0), (9, ς Fa 4 fc), (10, ι 4), (11, ι 3), (22, pt t)] 3 ?_
 refine RunR.st (some 23) (.load 26 (.tmp 22)) (Step.load_blk hU 0 t (0) 75 [pt d, ς La lm lc] (pt d) (by kernel_rfl) (by kernel_rfl) (by kernel_rfl) (by kernel_rfl) ?_)
 refine RunR.st (some 24) (.call { callee := .value (.func 51), args := #[.tmp 23], argTypes := #[26] }) (Step.cn 51 [pt d] (δ d A n c f M J k j i v []) [blk t 75 [pt d, ς La lm lc], vw Fa [.func (.func 58) #[pt t] #[], .func (.func 59) #[pt t] #[], .func (.func 28) #[pt t] #[], .func (.func 29) #[pt t] #[]], vw La (chV ls), vws (chL ls)] (d_Sync_spec d A n c f M J k j i v C0 ‹_› ‹_› (fun h => hAs (by exact h)) ‹_› ‹_› ‹_› (by omega) ‹_› ‹_› (fun h => E0 (by exact h)) ‹_›) [1, 1, 1, 1] ?_)
 rintro _ _ ⟨y, l, E, O, u, q, s, o, rfl, rfl, T0, c1, f1, a1, S0, k1, X0, Q0, h1⟩
 refine RunR.sl hU [] 1 6 [0, 4, 8, 9, 10, 11] [(0, pt t), (4, ι 0), (8, ι y), (9, ς Fa 4 fc), (10, ι 4), (11, ι 3)] 1 ?_
 refine RunR.nx ?_
 refine RunR.sl hU [] 2 2 [0, 4, 8, 9, 10, 11, 26] [(0, pt t), (4, ι 0), (8, ι y), (9, ς Fa 4 fc), (10, ι 4), (11, ι 3), (26, η (!decide (y = 0)))] 2 ?_
 refine RunR.nn ?_
 refine RunC.condn (y = 0) (by kernel_rfl) (fun I0 => ?_) (fun I0 => ?_)
 ·refine RunC.sr ?_
  refine RunR.sl hU [] 2 2 [0, 4, 9, 10, 11] [(0, pt t), (4, ι y), (9, ς Fa 4 fc), (10, ι 4), (11, ι 3)] 2 ?_
  refine RunR.nn ?_
  refine RunC.ret ?_
  refine kblock_r ?_
  refine kseq_r ?_
  refine kround_r ?_
  refine kblock_r ?_
  refine kseq_r ?_
  refine kret_r [ι y] [4, 0, 0, 0, 0] (blk t 75 [pt d, ς La lm lc] :: δ d A n c l E O u q s o []) ⟨rfl, trivial⟩ (by kernel_rfl) rfl ⟨y, l, E, O, u, q, s, o, rfl, rfl, (by exact (phs_k ‹_› ‹_› ‹_› ‹_› (phs_k ‹_› ‹_› ‹_› ‹_› (phs_k ‹_› ‹_› ‹_› ‹_› (phs_s ‹_› ‹_› ‹_› ‹_›))))), ‹_›, ‹_›, ‹_›, (by omega), ‹_›, ‹_›, ‹_›, ‹_›⟩
 refine RunC.skip ?_
 refine kblock_n ?_
 refine kseq_n ?_
 refine RunC.region ?_
 refine RunR.sil hU [0] 2 2 [0, 4, 9, 10, 11] [(0, pt t), (4, ι 0), (9, ς Fa 4 fc), (10, ι 4), (11, ι 4)] ((-9223372036854775808 ≤ ((3 : Int) + 1) ∧ ((3 : Int) + 1) < 9223372036854775808) ∧ (True) ∧ True) rfl (by kernel_rfl) ⟨(by decide), trivial, trivial⟩ ?_
 refine RunR.dn ?_
 refine kround_n ?_
 refine RunC.sr ?_
 refine RunR.sl hU [] 1 1 [0, 4, 9, 10, 11, 12] [(0, pt t), (4, ι 0), (9, ς Fa 4 fc), (10, ι 4), (11, ι 4), (12, η false)] 1 ?_
 refine RunR.nn ?_
 refine RunC.seq ?_
 refine RunC.cond (b := false) (by kernel_rfl) (fun h => by cases h) (fun _ => ?_)
 refine RunC.exit ?_
 refine kseq_e ?_
 refine kround_e ?_
 refine kblock_e ?_
 refine kseq_n ?_
 refine RunC.sr ?_
 refine RunR.sl hU [] 1 1 [4] [(4, ι 0)] 1 ?_
 refine RunR.nn ?_
 refine RunC.ret ?_
 refine kret_r [ι 0] [4, 0, 0, 0, 0] (blk t 75 [pt d, ς La lm lc] :: δ d A n c l E O u q s o []) ⟨rfl, trivial⟩ (by kernel_rfl) rfl ⟨0, l, E, O, u, q, s, o, rfl, rfl, (by exact (phs_k ‹_› ‹_› ‹_› ‹_› (phs_k ‹_› ‹_› ‹_› ‹_› (phs_k ‹_› ‹_› ‹_› ‹_› (phs_k ‹_› ‹_› ‹_› ‹_› (phs_nil rfl)))))), ‹_›, ‹_›, ‹_›, (by omega), ‹_›, ‹_›, ‹_›, ‹_›⟩
theorem wl_Open_spec (d : Nat) (A : Option Addr) (n : Nat) (c : Nat) (ss : List Int) (Wa : Option Addr) (m : Nat) (wc : Nat) (ws : List Ch) (lf : Int) (dn : Bool) (hss : In .u8 ss) (hnl : ss.length = n) (hnc : n ≤ c) (hAs : 0 < n → Option.isSome A = true) (X : n % 256 = 0) (hnb : n ≤ 557056) (hml : ws.length = m) (hmb : m ≤ 800000) (hok : ChOK .u8 ws) (hwk : WOK n ws) (hWs : 0 < m → Option.isSome Wa = true) (hlf : 0 ≤ lf ∧ lf < 9223372036854775808) :
 CallsS Try.prog 12 [pt d] (δ d A n c ss Wa m wc ws lf dn []) (fun r D => (r = .tuple #[.pointer none, ι 1] ∧ D = (δ d A n c ss Wa m wc ws lf dn []) ∧ (¬ 256 * 43 ≤ n)) ∨ (∃ (e : Int) (l : List Int) (Wb : Option Addr) (B : Nat) (C : Nat) (f : List Ch) (g : Int) (z : Bool), r = .tuple #[.pointer none, ι e] ∧ D = (δ d A n c l Wb B C f g z []) ∧ ((e, l, dat f, g, z) = phs n ss (dat ws) lf dn (openL (logged n ss (dat ws)))) ∧ (In .u8 l) ∧ (l.length = n) ∧ (f.length = B) ∧ (B ≤ m + 82) ∧ (ChOK .u8 f) ∧ (WOK n f) ∧ (0 < B → Option.isSome Wb = true) ∧ (0 ≤ g ∧ g < 9223372036854775808) ∧ (256 * 43 ≤ n) ∧ (¬ e = 0)) ∨ (∃ (J : Nat) (l : List Int) (Wb : Option Addr) (B : Nat) (C : Nat) (f : List Ch) (g : Int) (z : Bool), r = .tuple #[pt J, ι 0] ∧ D = (blk J 71 [pt d] :: δ d A n c l Wb B C f g z []) ∧ ((0, l, dat f, g, z) = phs n ss (dat ws) lf dn (openL (logged n ss (dat ws)))) ∧ (In .u8 l) ∧ (l.length = n) ∧ (f.length = B) ∧ (B ≤ m + 82) ∧ (ChOK .u8 f) ∧ (WOK n f) ∧ (0 < B → Option.isSome Wb = true) ∧ (0 ≤ g ∧ g < 9223372036854775808) ∧ (256 * 43 ≤ n))) := by
 refine CallsS.enter hU Try.f12 _ [.tmp 2, .tmp 3] 29 Try.func12 rfl (by decide) rfl rfl (by kernel_rfl) fun Z W => ?_
 refine RunC.sr ?_
 refine RunR.sl hU [] 2 2 [0, 2, 3] [(0, pt d), (2, .pointer none), (3, ι 0)] 2 ?_
 refine RunR.nx ?_
 refine RunR.sl hU [] 2 2 [0, 2, 3, 8] [(0, pt d), (2, .pointer none), (3, ι 0), (8, .agg #[pt d])] 2 ?_
 refine RunR.st (some 9) (.box 71 (.tmp 8)) (Step.box (.agg #[pt d]) (by kernel_rfl) (by kernel_rfl) (fun b => ?_))
 refine RunR.sl hU [] 1 4 [0, 2, 3, 4] [(0, pt d), (2, .pointer none), (3, ι 0), (4, pt b)] 1 ?_
 refine RunR.nn ?_
 refine RunC.seq ?_
 refine RunC.sr ?_
 refine RunR.sl hU [] 1 1 [0, 2, 3, 4, 10] [(0, pt d), (2, .pointer none), (3, ι 0), (4, pt b), (10, pt b)] 1 ?_
 refine RunR.st (some 11) (.call { callee := .value (.func 25), args := #[.tmp 10], argTypes := #[40] }) (Step.cn 25 [pt b] [blk b 71 [pt d], blk d 47 [ς A n c, ς Wa m wc, ι lf, η dn]] [κ 5 .u8 A n c ss, ξ Wa m wc ws, chd .u8 ws] (wl_Blocks_spec b d A n c Wa m wc lf dn ‹_› ‹_›) [0, 0] ?_)
 rintro _ _ ⟨rfl, rfl⟩
 refine RunR.sl hU [] 1 3 [0, 2, 3, 4, 12] [(0, pt d), (2, .pointer none), (3, ι 0), (4, pt b), (12, η (decide (((n : Int) / 256 - 42) < 1)))] 1 ?_
 refine RunR.nn ?_
 refine RunC.condp (((n : Int) / 256 - 42) < 1) (by kernel_rfl) (fun V => ?_) (fun V => ?_)
 ·refine RunC.sr ?_
  refine RunR.sl hU [] 2 2 [0, 2, 3, 4] [(0, pt d), (2, .pointer none), (3, ι 1), (4, pt b)] 2 ?_
  refine RunR.nn ?_
  refine RunC.ret ?_
  refine kseq_r ?_
  refine kret_r [.pointer none, ι 1] [1, 1, 1, 1] (δ d A n c ss Wa m wc ws lf dn []) ⟨rfl, rfl, trivial⟩ (by kernel_rfl) rfl (.inl ⟨rfl, rfl, (by omega)⟩)
 refine RunC.ksr ?_
 refine RunR.sl hU [] 2 2 [2, 3, 4, 13, 14] [(2, .pointer none), (3, ι 0), (4, pt b), (13, pt d), (14, pt b)] 2 ?_
 refine RunR.st (some 15) (.call { callee := .value (.func 26), args := #[.tmp 14], argTypes := #[40] }) (Step.cn 26 [pt b] (blk b 71 [pt d] :: δ d A n c ss Wa m wc ws lf dn []) [] (wl_logged_spec b d A n c ss Wa m wc ws lf dn hss ‹_› ‹_› (fun h => hAs (by exact h)) ‹_› ‹_› ‹_› (by omega) ‹_› ‹_› (fun h => hWs (by exact h)) (by omega)) [0, 0, 0, 0, 0] ?_)
 rintro _ _ ⟨q, x, y, t, rfl, rfl, E, T, Y, O, I, G⟩
 refine RunR.sl hU [] 1 4 [2, 3, 4, 16] [(2, .pointer none), (3, ι 0), (4, pt b), (16, .agg #[pt d, ς q x y])] 1 ?_
 refine RunR.st (some 17) (.box 75 (.tmp 16)) (Step.box (.agg #[pt d, ς q x y]) (by kernel_rfl) (by kernel_rfl) (fun a => ?_))
 refine RunR.sl hU [] 1 6 [2, 3, 4, 5] [(2, .pointer none), (3, ι 0), (4, pt b), (5, pt a)] 1 ?_
 refine RunR.nn ?_
 refine RunC.seq ?_
 refine RunC.sr ?_
 refine RunR.sl hU [] 5 5 [2, 3, 4, 18, 20, 22] [(2, .pointer none), (3, ι 0), (4, pt b), (18, pt a), (20, .func (.func 28) #[pt a] #[]), (22, .func (.func 29) #[pt a] #[])] 5 ?_
 refine RunR.st (some 23) (.buildSlice 98 2 #[(0, .tmp 20), (1, .tmp 22)]) (Step.lit_vals hU 57 8 (.nilFunc) [.func (.func 28) #[pt a] #[], .func (.func 29) #[pt a] #[]] (by kernel_rfl) (by kernel_rfl) (by kernel_rfl) (by simp [Value.cells]) rfl rfl (by kernel_rfl) (fun w => ?_))
 refine RunR.st (some 24) (.call { callee := .value (.func 27), args := #[.tmp 18, .tmp 23], argTypes := #[72, 98] }) (Step.cl 27 [pt a, ς (ad w) 2 2] (blk a 75 [pt d, ς q x y] :: δ d A n c ss Wa m wc ws lf dn []) [vw (ad w) [.func (.func 28) #[pt a] #[], .func (.func 29) #[pt a] #[]], vw q (chV t), vws (chL t)] [row 57 1 (ς (ad w) 2 2) 2 [.func (.func 28) #[pt a] #[], .func (.func 29) #[pt a] #[]], ξ q x y t, chd .u8 t, blk b 71 [pt d]] (wl_phases2_spec a d A n c ss Wa m wc ws lf dn q x y t (ad w) 2 hss ‹_› ‹_› (fun h => hAs (by exact h)) ‹_› ‹_› ‹_› ‹_› ‹_› ‹_› (fun h => hWs (by exact h)) ‹_› ‹_› ‹_› ‹_› ‹_› (by omega)) [1, 4, 4, 4, 4] ((((Lend.nil _).ofChd 2 (by kernel_rfl)).tells 1 (ξ q x y t) q (chV t) (by kernel_rfl) (tells_row _ _ _ _ _ _)).tells 0 (row 57 1 (ς (ad w) 2 2) 2 [.func (.func 28) #[pt a] #[], .func (.func 29) #[pt a] #[]]) (ad w) [.func (.func 28) #[pt a] #[], .func (.func 29) #[pt a] #[]] (by kernel_rfl) (tells_row _ _ _ _ _ _)) ?_)
 rintro _ _ ⟨s, j, u, v, o, k, i, p, rfl, rfl, K, M, H, L, Q, R, P, N, S⟩
 refine RunR.sl hU [] 1 8 [2, 3, 4, 6] [(2, .pointer none), (3, ι 0), (4, pt b), (6, ι s)] 1 ?_
 refine RunR.nx ?_
 refine RunR.sl hU [] 2 2 [2, 3, 4, 6, 26] [(2, .pointer none), (3, ι 0), (4, pt b), (6, ι s), (26, η (!decide (s = 0)))] 2 ?_
 refine RunR.nn ?_
 refine RunC.condn (s = 0) (by kernel_rfl) (fun F => ?_) (fun F => ?_)
 ·refine RunC.sr ?_
  refine RunR.sl hU [] 3 3 [2, 3, 4] [(2, .pointer none), (3, ι s), (4, pt b)] 3 ?_
  refine RunR.nn ?_
  refine RunC.ret ?_
  refine kseq_r ?_
  refine kret_r [.pointer none, ι s] [1, 1, 1, 1] (δ d A n c j u v o k i p []) ⟨rfl, rfl, trivial⟩ (by kernel_rfl) rfl (.inr <| .inl ⟨s, j, u, v, o, k, i, p, rfl, rfl, (by rw [← E]; assumption), ‹_›, ‹_›, ‹_›, (by omega), ‹_›, ‹_›, ‹_›, ‹_›, (by omega), ‹_›⟩)
 refine RunC.ksr ?_
 refine RunR.sl hU [] 3 3 [2, 3] [(2, pt b), (3, ι 0)] 3 ?_
 refine RunR.nn ?_
 refine RunC.ret ?_
 refine kret_r [pt b, ι 0] [8, 1, 1, 1, 1] (blk b 71 [pt d] :: δ d A n c j u v o k i p []) ⟨rfl, rfl, trivial⟩ (by kernel_rfl) rfl (.inr <| .inr ⟨b, j, u, v, o, k, i, p, rfl, rfl, (by rw [← E, ← (by assumption : _ = (0 : Int))]; assumption), ‹_›, ‹_›, ‹_›, (by omega), ‹_›, ‹_›, ‹_›, ‹_›, (by omega)⟩)
end Go.Proofs.Ytlibhidhfbecbaa.LFileOne
