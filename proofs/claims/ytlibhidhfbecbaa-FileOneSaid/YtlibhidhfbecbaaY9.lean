import Derived.Test.YtlibhidhfbecbaaOnePure
import Derived.Test.YtlibhidhfbecbaaProg
import Derived.Test.YtlibhidhfbecbaaY8
namespace Go.Proofs.Ytlibhidhfbecbaa.LFileOne
open Go Go.Proofs.Ytlibhidhfbecbaa.SL Go.Proofs.Ytlibhidhfbecbaa.SL.W Go.Proofs.Ytlibhidhfbecbaa.SL.D Go.Proofs.Ytlibhidhfbecbaa.SL.I Go.Proofs.Ytlibhidhfbecbaa.XT
set_option linter.unusedVariables false
set_option linter.unusedSimpArgs false
set_option maxRecDepth 100000
set_option maxHeartbeats 40000000
theorem fl_Commit_spec (fi : Nat) (wj : Nat) (dd : Bool) (mp : Nat) (Fs : List Fe) (fc : Nat) (G : List Ro) (NA : Option Addr) (nk : Nat) (nc : Nat) (ns : List Int) (d : Nat) (A : Option Addr) (n : Nat) (c : Nat) (ss : List Int) (Wa : Option Addr) (m : Nat) (wc : Nat) (ws : List Ch) (lf : Int) (dn : Bool) (La : Option Addr) (lm : Nat) (lc : Nat) (ls : List Fc) (hFe : FeOK Fs) (hFm : FMOK Fs fc) (hFi : FeIn Fs G) (hgd : I.Good (fcon Fs) ns nk) (hnk : ns.length = nk) (hkd : (nk : Int) = datN n) (o3 : 1 ≤ nk) (hNA : 0 < nk → Option.isSome NA = true) (hnkc : nk ≤ nc) (hins : Bnd 0 65536 ns) (hss : In .u8 ss) (hnl : ss.length = n) (hnc : n ≤ c) (hAs : 0 < n → Option.isSome A = true) (p3 : n % 256 = 0) (hnb : n ≤ 557056) (hml : ws.length = m) (hmb : m ≤ 780000) (hok : ChOK .u8 ws) (hwk : WOK n ws) (hWs : 0 < m → Option.isSome Wa = true) (hlf : 0 ≤ lf ∧ lf < 9223372036854775808) (hll : ls.length = lm) (hlb : lm ≤ 100000) (hlok : RowsOK .u8 (fcR ls)) (hFn : Fs.length ≤ 100000) :
 CallsS Try.prog 7 [pt fi, ς La lm lc] (blk fi 51 [pt wj, .map (some mp), ς NA nk nc, η dd] :: mpf mp (Fs.map feM) fc :: κ 3 .i64 NA nk nc ns :: rws .i64 G :: blk wj 71 [pt d] :: δ d A n c ss Wa m wc ws lf dn [vw La (recV fcC ls), vws (rowsL .u8 (fcR ls))]) (fun r D => ∃ (e : Int) (x1 : Nat) (F : List Fe) (D1 : Nat) (G2 : List Ro) (k1 : Option Addr) (g0 : Nat) (q1 : Nat) (z0 : List Int) (d2 : Bool) (Q0 : List Int) (Wb : Option Addr) (m2 : Nat) (q2 : Nat) (I0 : List Ch) (R0 : Int) (w1 : Bool), r = ι e ∧ D = (blk fi 51 [pt wj, .map (some x1), ς k1 g0 q1, η d2] :: mpf x1 (F.map feM) D1 :: κ 3 .i64 k1 g0 q1 z0 :: rws .i64 G2 :: blk wj 71 [pt d] :: δ d A n c Q0 Wb m2 q2 I0 R0 w1 []) ∧ (CmR n ss (dat ws) lf dn (fcon Fs) ns dd (ca ls) e Q0 (dat I0) R0 w1 (fcon F) z0 d2) ∧ (FeOK F) ∧ (FMOK F D1) ∧ (FeIn F G2) ∧ (I.Good (fcon F) z0 g0) ∧ (z0.length = g0) ∧ (g0 = nk) ∧ (0 < g0 → Option.isSome k1 = true) ∧ (g0 ≤ q1) ∧ (Bnd 0 65536 z0) ∧ (In .u8 Q0) ∧ (Q0.length = n) ∧ (I0.length = m2) ∧ (m2 ≤ m + 5000) ∧ (ChOK .u8 I0) ∧ (WOK n I0) ∧ (0 < m2 → Option.isSome Wb = true) ∧ (0 ≤ R0 ∧ R0 < 9223372036854775808)) := by
 refine CallsS.enter hU Try.f7 _ [.tmp 4] 61 Try.func7 rfl (by decide) rfl rfl (by kernel_rfl) fun w0 W => ?_
 have hdb := datN_bd n
 refine RunC.know (p := 0 < ls.length * 3 → Option.isSome La = true) (fun _ _ w hs => vw_some hs 9 rfl (by exact fcV_len _)) (fun z1 => ?_)
 refine RunC.sr ?_
 refine RunR.sl hU [] 1 1 [0, 1, 4] [(0, pt fi), (1, ς La lm lc), (4, ι 0)] 1 ?_
 refine RunR.nn ?_
 refine RunC.seq ?_
 refine RunC.sr ?_
 refine RunR.sl hU [] 3 3 [0, 1, 4, 14] [(0, pt fi), (1, ς La lm lc), (4, ι 0), (14, .pointer (some ⟨fi, 3, none⟩))] 3 ?_
 refine RunR.st (some 15) (.load 4 (.tmp 14)) (Step.load_blk hU 0 fi (3) 51 [pt wj, .map (some mp), ς NA nk nc, η dd] (η dd) (by kernel_rfl) (by kernel_rfl) (by kernel_rfl) (by kernel_rfl) ?_)
 refine RunR.nn ?_
 refine RunC.cond (b := dd) (by kernel_rfl) (fun h2 => ?_) (fun h2 => ?_)
 ·refine RunC.sr ?_
  refine RunR.sl hU [] 1 1 [0, 1, 4] [(0, pt fi), (1, ς La lm lc), (4, ι 11)] 1 ?_
  refine RunR.nn ?_
  refine RunC.ret ?_
  refine kseq_r ?_
  refine kret_r [ι 11] [0, 0, 0, 0, 0, 0, 0, 0, 0] (blk fi 51 [pt wj, .map (some mp), ς NA nk nc, η dd] :: mpf mp (Fs.map feM) fc :: κ 3 .i64 NA nk nc ns :: rws .i64 G :: blk wj 71 [pt d] :: δ d A n c ss Wa m wc ws lf dn []) ⟨rfl, trivial⟩ (by kernel_rfl) rfl ⟨11, mp, Fs, fc, G, NA, nk, nc, ns, dd, ss, Wa, m, wc, ws, lf, dn, rfl, rfl, (by exact cm_down ‹_›), ‹_›, ‹_›, ‹_›, ‹_›, ‹_›, (by omega), (fun h => hNA (by exact h)), ‹_›, ‹_›, hss, ‹_›, ‹_›, (by omega), ‹_›, ‹_›, (fun h => hWs (by exact h)), ‹_›⟩
 refine RunC.ks ?_
 refine RunC.seq ?_
 refine RunC.sr ?_
 refine RunR.sl hU [] 2 2 [0, 1, 4, 16, 17] [(0, pt fi), (1, ς La lm lc), (4, ι 0), (16, pt fi), (17, ς La lm lc)] 2 ?_
 refine RunR.st (some 18) (.call { callee := .value (.func 14), args := #[.tmp 16, .tmp 17], argTypes := #[24, 32] }) (Step.cl 14 [pt fi, ς La lm lc] (ζ fi wj mp Fs fc NA nk nc ns dd []) [vw La (recV fcC ls), vws (rowsL .u8 (fcR ls))] (rws .i64 G :: blk wj 71 [pt d] :: δ d A n c ss Wa m wc ws lf dn [vw La (recV fcC ls), vws (rowsL .u8 (fcR ls))]) (fl_may_spec fi wj dd mp Fs fc NA nk nc ns La lm lc ls ‹_› ‹_› ‹_› (fun h => hNA (by exact h)) ‹_› (by omega) ‹_› ‹_› ‹_› ‹_›) [0, 0, 0] (((Lend.nil _).same 7 (vws (rowsL .u8 (fcR ls))) (by kernel_rfl) rfl).tells 6 (vw La (recV fcC ls)) La (recV fcC ls) (by kernel_rfl) (tells_vw _ _)) ?_)
 rintro _ _ ⟨e3, rfl, rfl, V1⟩
 refine RunR.sl hU [] 1 4 [0, 1, 4, 5] [(0, pt fi), (1, ς La lm lc), (4, ι 0), (5, ι e3)] 1 ?_
 refine RunR.nx ?_
 refine RunR.sl hU [] 2 2 [0, 1, 4, 5, 20] [(0, pt fi), (1, ς La lm lc), (4, ι 0), (5, ι e3), (20, η (!decide (e3 = 0)))] 2 ?_
 refine RunR.nn ?_
 refine RunC.condn (e3 = 0) (by kernel_rfl) (fun h5 => ?_) (fun h5 => ?_)
 ·refine RunC.sr ?_
  refine RunR.sl hU [] 2 2 [0, 1, 4] [(0, pt fi), (1, ς La lm lc), (4, ι e3)] 2 ?_
  refine RunR.nn ?_
  refine RunC.ret ?_
  refine kseq_r ?_
  refine kret_r [ι e3] [0, 0, 0, 0, 0, 0, 0, 0, 0] (blk fi 51 [pt wj, .map (some mp), ς NA nk nc, η dd] :: mpf mp (Fs.map feM) fc :: κ 3 .i64 NA nk nc ns :: rws .i64 G :: blk wj 71 [pt d] :: δ d A n c ss Wa m wc ws lf dn []) ⟨rfl, trivial⟩ (by kernel_rfl) rfl ⟨e3, mp, Fs, fc, G, NA, nk, nc, ns, dd, ss, Wa, m, wc, ws, lf, dn, rfl, rfl, (by exact cm_may ‹_› V1 ‹_›), ‹_›, ‹_›, ‹_›, ‹_›, ‹_›, (by omega), (fun h => hNA (by exact h)), ‹_›, ‹_›, hss, ‹_›, ‹_›, (by omega), ‹_›, ‹_›, (fun h => hWs (by exact h)), ‹_›⟩
 refine RunC.ksr ?_
 refine RunR.sl hU [] 1 1 [0, 1, 4, 22] [(0, pt fi), (1, ς La lm lc), (4, ι 0), (22, pt fi)] 1 ?_
 refine RunR.st (some 23) (.call { callee := .value (.func 15), args := #[.tmp 22], argTypes := #[24] }) (Step.cn 15 [pt fi] (ζ fi wj mp Fs fc NA nk nc ns dd []) (rws .i64 G :: blk wj 71 [pt d] :: δ d A n c ss Wa m wc ws lf dn [vw La (recV fcC ls), vws (rowsL .u8 (fcR ls))]) (fl_begin_spec fi wj dd mp Fs fc NA nk nc ns ‹_› ‹_› ‹_› (fun h => hNA (by exact h)) ‹_› (by omega) ‹_›) [0, 0, 0] ?_)
 rintro _ _ ⟨g, s, q, k, f, O0, l, o, a, rfl, rfl, b1, B0, X2, J1, Z2, E0, g3, f3, I2⟩
 have e2 := (congrArg List.length b1).trans hnk
 refine RunR.sl hU [] 1 3 [0, 1, 4, 6] [(0, pt fi), (1, ς La lm lc), (4, ι 0), (6, pt g)] 1 ?_
 refine RunR.nn ?_
 refine RunC.seq ?_
 refine RunC.sr ?_
 refine RunR.sl hU [] 3 3 [0, 1, 4, 6, 24, 25, 26] [(0, pt fi), (1, ς La lm lc), (4, ι 0), (6, pt g), (24, ς La lm lc), (25, ι (lm : Int)), (26, ι 0)] 3 ?_
 refine RunR.nn ?_
 refine RunC.block ?_
 refine RunC.env [0, 1, 4, 6, 24, 25, 26] [(0, pt fi), (1, ς La lm lc), (4, ι 0), (6, pt g), (24, ς La lm lc), (25, ι (lm : Int)), (26, ι 0)] (by kernel_rfl) ?_
 refine RunC.only [0, 0, 0, 0, 0, 0, 0, 0, 0, 0, 0, 0, 0, 0, 0] (blk g 87 (([pt fi] : List Value) ++ (([.map (some s)] : List Value) ++ (([ς q f.length k] : List Value) ++ (bls O0 ++ ([ς l a.length o] : List Value))))) :: mpf s (Fs.map feM) fc :: κ 3 .i64 q f.length k f :: κ 3 .i64 l a.length o a :: blk fi 51 [pt wj, .map (some mp), ς NA nk nc, η dd] :: mpf mp (Fs.map feM) fc :: κ 3 .i64 NA nk nc ns :: rws .i64 G :: blk wj 71 [pt d] :: δ d A n c ss Wa m wc ws lf dn [vw La (recV fcC ls), vws (rowsL .u8 (fcR ls))]) (by kernel_rfl) ?_
 refine RunC.loop (σ := Nat) (fun n_ t_ D_ => ∃ (i : Int) (F1 : List Fe) (n4 : List Int) (H : List Bool) (J0 : List Bool), (0 ≤ i) ∧ (i ≤ (lm : Int)) ∧ (SlC J0 (fcon Fs)) ∧ ((⟨fcon F1, n4, H, frL ns⟩ : Ed) = dropsC (ca ls) ⟨fcon Fs, ns, J0, frL ns⟩ i.toNat) ∧ (FeOK F1) ∧ (FMOK F1 fc) ∧ (FeIn F1 G) ∧ (FeBl F1 (nk : Int)) ∧ (n4.length = f.length) ∧ (H.length = 64) ∧ n_ = ((lm - i).toNat : Nat) ∧ t_ = [(0, pt fi), (1, ς La lm lc), (4, ι 0), (6, pt g), (24, ς La lm lc), (25, ι (lm : Int)), (26, ι i)] ∧ D_ = (blk g 87 (([pt fi] : List Value) ++ (([.map (some s)] : List Value) ++ (([ς q f.length k] : List Value) ++ (bls H ++ ([ς l a.length o] : List Value))))) :: mpf s (F1.map feM) fc :: κ 3 .i64 q f.length k n4 :: κ 3 .i64 l a.length o a :: blk fi 51 [pt wj, .map (some mp), ς NA nk nc, η dd] :: mpf mp (Fs.map feM) fc :: κ 3 .i64 NA nk nc ns :: rws .i64 G :: blk wj 71 [pt d] :: δ d A n c ss Wa m wc ws lf dn [vw La (recV fcC ls), vws (rowsL .u8 (fcR ls))])) id _ ⟨0, Fs, f, O0, O0, (by omega), (by omega), (by exact SlC.of J1 ‹_›), (by rw [b1]; rfl), ‹_›, ‹_›, ‹_›, (by exact good_febl hgd), (by rfl), ‹_›, rfl, rfl, rfl⟩ ?_
 rintro n_ _ _ ⟨i, F1, n4, H, J0, hi, l3, a2, hD, N1, y1, R1, T1, J2, q3, rfl, rfl, rfl⟩
 refine RunC.sr ?_
 refine RunR.sl hU [] 1 1 [0, 1, 4, 6, 24, 25, 26, 27] [(0, pt fi), (1, ς La lm lc), (4, ι 0), (6, pt g), (24, ς La lm lc), (25, ι (lm : Int)), (26, ι i), (27, η (decide (i < (lm : Int))))] 1 ?_
 refine RunR.nn ?_
 refine RunC.seq ?_
 refine RunC.condp (i < (lm : Int)) (by kernel_rfl) (fun r2 => ?_) (fun r2 => ?_)
 ·refine RunC.ks ?_
  refine RunC.seq ?_
  refine RunC.block ?_
  refine RunC.sr ?_
  refine RunR.sil hU [] 1 1 [0, 1, 4, 6, 24, 25, 26, 28] [(0, pt fi), (1, ς La lm lc), (4, ι 0), (6, pt g), (24, ς La lm lc), (25, ι (lm : Int)), (26, ι i), (28, .pointer (elemAt La i 3))] (((0 ≤ i ∧ i < (lm : Int)) ∧ Option.isSome La = true) ∧ True) rfl (by kernel_rfl) ⟨⟨by omega, z1 (by omega)⟩, trivial⟩ ?_
  obtain ⟨B, E, P, N, O, G0, P2, b3, V2⟩ := fc_at (by assumption : RowsOK .u8 (fcR ls)) (i := (i).toNat) (by omega)
  refine RunR.st (some 29) (.load 31 (.tmp 28)) (Step.load_of hU 13 (vw La (recV fcC ls)) La i 3 (recV fcC ls) (.agg #[.string B, ς P O.length N, η E]) (by kernel_rfl) (by kernel_rfl) (tells_vw _ _) (loadv_rec fcC_len (by kernel_rfl) (by kernel_rfl) G0) (by kernel_rfl) (by rw [fcV_len]; omega) ?_)
  refine RunR.st (some 8) (.alloc 31) (Step.al hU 3 48 (.agg #[.string ⟨#[]⟩, ς0, η false]) (fun k0 => ?_))
  refine RunR.st none (.store 31 (.tmp 8) (.tmp 29)) (Step.store_blk hU 0 k0 0 31 [.string ⟨#[]⟩, ς0, η false] (.agg #[.string B, ς P O.length N, η E]) (by kernel_rfl) (by kernel_rfl) (by kernel_rfl) 3 rfl [.string B, ς P O.length N, η E] (by kernel_rfl) rfl (by kernel_rfl) (by decide) ?_)
  refine RunR.nx ?_
  refine RunR.sl hU [] 1 1 [0, 1, 4, 6, 8, 24, 25, 26, 30] [(0, pt fi), (1, ς La lm lc), (4, ι 0), (6, pt g), (8, pt k0), (24, ς La lm lc), (25, ι (lm : Int)), (26, ι i), (30, .pointer (some ⟨k0, 2, none⟩))] 1 ?_
  refine RunR.st (some 31) (.load 4 (.tmp 30)) (Step.load_blk hU 0 k0 (2) 31 [.string B, ς P O.length N, η E] (η E) (by kernel_rfl) (by kernel_rfl) (by kernel_rfl) (by kernel_rfl) ?_)
  refine RunR.nn ?_
  refine RunC.cond (b := E) (by kernel_rfl) (fun H2 => ?_) (fun H2 => ?_)
  ·refine RunC.region ?_
   refine RunR.sl hU [] 2 2 [0, 1, 4, 6, 24, 25, 26, 32, 33] [(0, pt fi), (1, ς La lm lc), (4, ι 0), (6, pt g), (24, ς La lm lc), (25, ι (lm : Int)), (26, ι i), (32, pt g), (33, pt k0)] 2 ?_
   refine RunR.st (some 34) (.load 9 (.tmp 33)) (Step.load_blk hU 0 k0 (0) 31 [.string B, ς P O.length N, η E] (.string B) (by kernel_rfl) (by kernel_rfl) (by kernel_rfl) (by kernel_rfl) ?_)
   refine RunR.st (some 35) (.call { callee := .value (.func 16), args := #[.tmp 32, .tmp 34], argTypes := #[52, 9] }) (Step.cn 16 [pt g, .string B] [blk g 87 (([pt fi] : List Value) ++ (([.map (some s)] : List Value) ++ (([ς q f.length k] : List Value) ++ (bls H ++ ([ς l a.length o] : List Value))))), mpf s (F1.map feM) fc, κ 3 .i64 q f.length k n4, rws .i64 G] (blk k0 31 [.string B, ς P O.length N, η E] :: κ 3 .i64 l a.length o a :: blk fi 51 [pt wj, .map (some mp), ς NA nk nc, η dd] :: mpf mp (Fs.map feM) fc :: κ 3 .i64 NA nk nc ns :: blk wj 71 [pt d] :: δ d A n c ss Wa m wc ws lf dn [vw La (recV fcC ls), vws (rowsL .u8 (fcR ls))]) (fl_drop_spec g fi s F1 fc G q k f.length n4 H l a.length o B ‹_› ‹_› ‹_› (by exact febl_n ‹_› (by omega)) ‹_› (fun h => B0 (by exact h)) ‹_› (by omega) ‹_›) [1, 1, 1, 5] ?_)
   rintro _ _ ⟨W0, X0, K0, rfl, rfl, d0, H1, K2, M1, R2⟩
   refine RunR.dn ?_
   refine kblock_n ?_
   refine kseq_n ?_
   refine RunC.region ?_
   refine RunR.sil hU [0] 2 2 [0, 1, 4, 6, 24, 25, 26] [(0, pt fi), (1, ς La lm lc), (4, ι 0), (6, pt g), (24, ς La lm lc), (25, ι (lm : Int)), (26, ι (i + 1))] ((-9223372036854775808 ≤ (i + 1) ∧ (i + 1) < 9223372036854775808) ∧ (True) ∧ True) rfl (by kernel_rfl) ⟨(by omega), trivial, trivial⟩ ?_
   refine RunR.dn ?_
   refine kloop_n _ [0, 1, 4, 6, 24, 25, 26] [0, 0, 0, 2, 2, 2, 2, 0, 1, 1, 1, 1, 1, 1, 1] [(0, pt fi), (1, ς La lm lc), (4, ι 0), (6, pt g), (24, ς La lm lc), (25, ι (lm : Int)), (26, ι (i + 1))] (blk g 87 (([pt fi] : List Value) ++ (([.map (some s)] : List Value) ++ (([ς q f.length k] : List Value) ++ (bls K0 ++ ([ς l a.length o] : List Value))))) :: mpf s (W0.map feM) fc :: κ 3 .i64 q f.length k X0 :: κ 3 .i64 l a.length o a :: blk fi 51 [pt wj, .map (some mp), ς NA nk nc, η dd] :: mpf mp (Fs.map feM) fc :: κ 3 .i64 NA nk nc ns :: rws .i64 G :: blk wj 71 [pt d] :: δ d A n c ss Wa m wc ws lf dn [vw La (recV fcC ls), vws (rowsL .u8 (fcR ls))]) (by kernel_rfl) (by kernel_rfl) ?_ ⟨(i + 1), W0, X0, K0, J0, (by omega), ‹_›, ‹_›, (by exact drop_next hi hD G0 ‹_› d0 H1 M1), (by rw [d0]; exact N1.del _), (by rw [d0]; exact y1.del _), (by rw [d0]; exact R1.del _), (by rw [d0]; exact T1.del _), ‹_›, ‹_›, rfl, (by rfl), (by rfl)⟩
   show ((lm - (i + 1)).toNat : Nat) < ((lm - i).toNat : Nat)
   omega
  refine RunC.skip ?_
  refine kblock_n ?_
  refine kseq_n ?_
  refine RunC.region ?_
  refine RunR.sil hU [0] 2 2 [0, 1, 4, 6, 24, 25, 26] [(0, pt fi), (1, ς La lm lc), (4, ι 0), (6, pt g), (24, ς La lm lc), (25, ι (lm : Int)), (26, ι (i + 1))] ((-9223372036854775808 ≤ (i + 1) ∧ (i + 1) < 9223372036854775808) ∧ (True) ∧ True) rfl (by kernel_rfl) ⟨(by omega), trivial, trivial⟩ ?_
  refine RunR.dn ?_
  refine kloop_n _ [0, 1, 4, 6, 24, 25, 26] [1, 1, 1, 1, 1, 1, 1, 1, 1, 1, 1, 1, 1, 1, 1] [(0, pt fi), (1, ς La lm lc), (4, ι 0), (6, pt g), (24, ς La lm lc), (25, ι (lm : Int)), (26, ι (i + 1))] (blk g 87 (([pt fi] : List Value) ++ (([.map (some s)] : List Value) ++ (([ς q f.length k] : List Value) ++ (bls H ++ ([ς l a.length o] : List Value))))) :: mpf s (F1.map feM) fc :: κ 3 .i64 q f.length k n4 :: κ 3 .i64 l a.length o a :: blk fi 51 [pt wj, .map (some mp), ς NA nk nc, η dd] :: mpf mp (Fs.map feM) fc :: κ 3 .i64 NA nk nc ns :: rws .i64 G :: blk wj 71 [pt d] :: δ d A n c ss Wa m wc ws lf dn [vw La (recV fcC ls), vws (rowsL .u8 (fcR ls))]) (by kernel_rfl) (by kernel_rfl) ?_ ⟨(i + 1), F1, n4, H, J0, (by omega), ‹_›, ‹_›, (by exact drop_skip hi hD G0 ‹_›), ‹_›, ‹_›, ‹_›, ‹_›, ‹_›, ‹_›, rfl, (by rfl), (by rfl)⟩
  show ((lm - (i + 1)).toNat : Nat) < ((lm - i).toNat : Nat)
  omega
 refine RunC.exit ?_
 refine kseq_e ?_
 refine kloop_e ?_
 refine kblock_e ?_
 refine kseq_n ?_
 refine RunC.seq ?_
 refine RunC.sr ?_
 refine RunR.sl hU [] 3 3 [0, 4, 6, 37, 38, 39] [(0, pt fi), (4, ι 0), (6, pt g), (37, ς La lm lc), (38, ι (lm : Int)), (39, ι 0)] 3 ?_
 refine RunR.nn ?_
 refine RunC.block ?_
 have hBg := I.begun hgd a2 hD (by rw [ca_len]; omega) V1 (by omega); have hcn_ := fun i_ => cm_needs hBg i_; have hfr_ : (frL ns).length ≤ 2048 := (by have h_ := frP_le ns ns.length; rw [show frP ns ns.length = frL ns from rfl] at h_; omega)
 refine RunC.env [0, 6, 37, 38, 39] [(0, pt fi), (6, pt g), (37, ς La lm lc), (38, ι (lm : Int)), (39, ι 0)] (by kernel_rfl) ?_
 refine RunC.only [0, 0, 0, 4, 5, 6, 6, 0, 0, 0, 0, 0, 0, 0, 0] (blk g 87 (([pt fi] : List Value) ++ (([.map (some s)] : List Value) ++ (([ς q f.length k] : List Value) ++ (bls H ++ ([ς l a.length o] : List Value))))) :: mpf s (F1.map feM) fc :: κ 3 .i64 q f.length k n4 :: rws .i64 G :: blk d 47 [ς A n c, ς Wa m wc, ι lf, η dn] :: ξ Wa m wc ws :: chd .u8 ws :: κ 3 .i64 l a.length o a :: ζ fi wj mp Fs fc NA nk nc ns dd [blk wj 71 [pt d], κ 5 .u8 A n c ss, vw La (recV fcC ls), vws (rowsL .u8 (fcR ls))]) (by kernel_rfl) ?_
 refine RunC.loop (σ := Nat) (fun n_ t_ D_ => ∃ (j : Int) (F : List Fe) (c2 : Nat) (n5 : List Int) (L : List Bool) (G5 : List Ro) (SA : Option Addr) (SN : Nat) (SC : Nat) (M : List Int) (W : Wt) (Wl : Option Addr) (ml : Nat) (wl : Nat) (wsl : List Ch) (ll : Int) (dl : Bool), (0 ≤ j) ∧ (j ≤ (lm : Int)) ∧ (PutN (ca ls) ⟨fcon F1, n4, H, frL ns⟩ j.toNat ⟨fcon F, n5, L, M⟩ W) ∧ ((0, dat wsl, ll, dl) = wrs n (dat ws) lf dn (W)) ∧ (∀ f_ : Fact, Tells f_ l (nums .i64 a) → Tells f_ SA (nums .i64 M)) ∧ (M.length = SN) ∧ (SN ≤ SC) ∧ (SN ≤ 2048) ∧ (∀ i_ ∈ M, 0 ≤ i_ ∧ i_ < (nk : Int)) ∧ (∀ r_ ∈ G, r_ ∈ G5) ∧ (FeOK F) ∧ (FMOK F c2) ∧ (FeIn F G5) ∧ (FeBl F (nk : Int)) ∧ (n5.length = f.length) ∧ (L.length = 64) ∧ (wsl.length = ml) ∧ ((ml : Int) ≤ m + needs (ca ls) j.toNat) ∧ (ChOK .u8 wsl) ∧ (WOK n wsl) ∧ (0 < ml → Option.isSome Wl = true) ∧ (0 ≤ ll ∧ ll < 9223372036854775808) ∧ n_ = ((lm - j).toNat : Nat) ∧ t_ = [(0, pt fi), (6, pt g), (37, ς La lm lc), (38, ι (lm : Int)), (39, ι j)] ∧ D_ = (blk g 87 (([pt fi] : List Value) ++ (([.map (some s)] : List Value) ++ (([ς q f.length k] : List Value) ++ (bls L ++ ([ς SA SN SC] : List Value))))) :: mpf s (F.map feM) c2 :: κ 3 .i64 q f.length k n5 :: rws .i64 G5 :: blk d 47 [ς A n c, ς Wl ml wl, ι ll, η dl] :: ξ Wl ml wl wsl :: chd .u8 wsl :: κ 3 .i64 l a.length o a :: ζ fi wj mp Fs fc NA nk nc ns dd [blk wj 71 [pt d], κ 5 .u8 A n c ss, vw La (recV fcC ls), vws (rowsL .u8 (fcR ls))])) id _ ⟨0, F1, fc, n4, H, G, l, a.length, o, (frL ns), ([] : Wt), Wa, m, wc, ws, lf, dn, (by omega), (by omega), (by exact ⟨rfl, rfl⟩), (by rfl), (by intro f_ hf_; rw [← E0]; exact hf_), (by rw [E0]), ‹_›, (by rw [E0]; exact hfr_), (by exact fr_bd hnk), (by exact fun r_ h_ => h_), ‹_›, ‹_›, ‹_›, (by exact febl_n ‹_› (by omega)), ‹_›, ‹_›, ‹_›, (by rw [show (0 : Int).toNat = 0 from rfl, needs]; omega), ‹_›, ‹_›, (fun h => hWs (by exact h)), ‹_›, rfl, rfl, rfl⟩ ?_
 rintro n_ _ _ ⟨j, F, c2, n5, L, G5, SA, SN, SC, M, W, Wl, ml, wl, wsl, ll, dl, hj, n3, hP, hW, hT, hSN, hSC, V0, f0, hGs, S1, Q1, O1, I1, L2, m3, hmll, hmbl, hokl, hwkl, hWl, hlfl, rfl, rfl, rfl⟩
 have hcj_ := hcn_ j.toNat (by omega)
 refine RunC.sr ?_
 refine RunR.sl hU [] 1 1 [0, 6, 37, 38, 39, 40] [(0, pt fi), (6, pt g), (37, ς La lm lc), (38, ι (lm : Int)), (39, ι j), (40, η (decide (j < (lm : Int))))] 1 ?_
 refine RunR.nn ?_
 refine RunC.seq ?_
 refine RunC.condp (j < (lm : Int)) (by kernel_rfl) (fun b2 => ?_) (fun b2 => ?_)
 ·refine RunC.ks ?_
  refine RunC.seq ?_
  refine RunC.block ?_
  refine RunC.sr ?_
  refine RunR.sil hU [] 1 1 [0, 6, 37, 38, 39, 41] [(0, pt fi), (6, pt g), (37, ς La lm lc), (38, ι (lm : Int)), (39, ι j), (41, .pointer (elemAt La j 3))] (((0 ≤ j ∧ j < (lm : Int)) ∧ Option.isSome La = true) ∧ True) rfl (by kernel_rfl) ⟨⟨by omega, z1 (by omega)⟩, trivial⟩ ?_
  obtain ⟨x, z, u, y, t, v, P1, d3, c3⟩ := fc_at (by assumption : RowsOK .u8 (fcR ls)) (i := (j).toNat) (by omega)
  refine RunR.st (some 42) (.load 31 (.tmp 41)) (Step.load_of hU 13 (vw La (recV fcC ls)) La j 3 (recV fcC ls) (.agg #[.string x, ς u t.length y, η z]) (by kernel_rfl) (by kernel_rfl) (tells_vw _ _) (loadv_rec fcC_len (by kernel_rfl) (by kernel_rfl) v) (by kernel_rfl) (by rw [fcV_len]; omega) ?_)
  refine RunR.st (some 10) (.alloc 31) (Step.al hU 3 48 (.agg #[.string ⟨#[]⟩, ς0, η false]) (fun J => ?_))
  refine RunR.st none (.store 31 (.tmp 10) (.tmp 42)) (Step.store_blk hU 0 J 0 31 [.string ⟨#[]⟩, ς0, η false] (.agg #[.string x, ς u t.length y, η z]) (by kernel_rfl) (by kernel_rfl) (by kernel_rfl) 3 rfl [.string x, ς u t.length y, η z] (by kernel_rfl) rfl (by kernel_rfl) (by decide) ?_)
  refine RunR.nn ?_
  refine RunC.seq ?_
  refine RunC.sr ?_
  refine RunR.sl hU [] 1 1 [0, 6, 10, 37, 38, 39, 43] [(0, pt fi), (6, pt g), (10, pt J), (37, ς La lm lc), (38, ι (lm : Int)), (39, ι j), (43, .pointer (some ⟨J, 2, none⟩))] 1 ?_
  refine RunR.st (some 44) (.load 4 (.tmp 43)) (Step.load_blk hU 0 J (2) 31 [.string x, ς u t.length y, η z] (η z) (by kernel_rfl) (by kernel_rfl) (by kernel_rfl) (by kernel_rfl) ?_)
  refine RunR.nn ?_
  refine RunC.cond (b := z) (by kernel_rfl) (fun k2 => ?_) (fun k2 => ?_)
  ·refine RunC.exit ?_
   refine kseq_e ?_
   refine kblock_e ?_
   refine kseq_n ?_
   refine RunC.region ?_
   refine RunR.sil hU [0] 2 2 [0, 6, 37, 38, 39] [(0, pt fi), (6, pt g), (37, ς La lm lc), (38, ι (lm : Int)), (39, ι (j + 1))] ((-9223372036854775808 ≤ (j + 1) ∧ (j + 1) < 9223372036854775808) ∧ (True) ∧ True) rfl (by kernel_rfl) ⟨(by omega), trivial, trivial⟩ ?_
   refine RunR.dn ?_
   refine kloop_n _ [0, 6, 37, 38, 39] [1, 1, 1, 1, 1, 1, 1, 1, 1, 1, 1, 1, 1, 1, 1] [(0, pt fi), (6, pt g), (37, ς La lm lc), (38, ι (lm : Int)), (39, ι (j + 1))] (blk g 87 (([pt fi] : List Value) ++ (([.map (some s)] : List Value) ++ (([ς q f.length k] : List Value) ++ (bls L ++ ([ς SA SN SC] : List Value))))) :: mpf s (F.map feM) c2 :: κ 3 .i64 q f.length k n5 :: rws .i64 G5 :: blk d 47 [ς A n c, ς Wl ml wl, ι ll, η dl] :: ξ Wl ml wl wsl :: chd .u8 wsl :: κ 3 .i64 l a.length o a :: ζ fi wj mp Fs fc NA nk nc ns dd [blk wj 71 [pt d], κ 5 .u8 A n c ss, vw La (recV fcC ls), vws (rowsL .u8 (fcR ls))]) (by kernel_rfl) (by kernel_rfl) ?_ ⟨(j + 1), F, c2, n5, L, G5, SA, SN, SC, M, W, Wl, ml, wl, wsl, ll, dl, (by omega), ‹_›, (by exact put_skip hj hP v ‹_›), ‹_›, ‹_›, ‹_›, ‹_›, ‹_›, ‹_›, ‹_›, ‹_›, ‹_›, ‹_›, ‹_›, ‹_›, ‹_›, ‹_›, (by rw [needs_skip hj v ‹_›]; exact hmbl), ‹_›, ‹_›, (fun h => hWl (by exact h)), ‹_›, rfl, (by rfl), (by rfl)⟩
   show ((lm - (j + 1)).toNat : Nat) < ((lm - j).toNat : Nat)
   omega
  refine RunC.ksr ?_
  refine RunR.sl hU [] 2 2 [0, 6, 10, 37, 38, 39, 45, 46] [(0, pt fi), (6, pt g), (10, pt J), (37, ς La lm lc), (38, ι (lm : Int)), (39, ι j), (45, pt g), (46, pt J)] 2 ?_
  refine RunR.st (some 47) (.load 9 (.tmp 46)) (Step.load_blk hU 0 J (0) 31 [.string x, ς u t.length y, η z] (.string x) (by kernel_rfl) (by kernel_rfl) (by kernel_rfl) (by kernel_rfl) ?_)
  refine RunR.sl hU [] 1 4 [0, 6, 37, 38, 39, 45, 47, 48] [(0, pt fi), (6, pt g), (37, ς La lm lc), (38, ι (lm : Int)), (39, ι j), (45, pt g), (47, .string x), (48, .pointer (some ⟨J, 1, none⟩))] 1 ?_
  refine RunR.st (some 49) (.load 22 (.tmp 48)) (Step.load_blk hU 0 J (1) 31 [.string x, ς u t.length y, η z] (ς u t.length y) (by kernel_rfl) (by kernel_rfl) (by kernel_rfl) (by kernel_rfl) ?_)
  refine RunR.st (some 50) (.call { callee := .value (.func 17), args := #[.tmp 45, .tmp 47, .tmp 49], argTypes := #[52, 9, 22] }) (Step.cl 17 [pt g, .string x, ς u t.length y] (blk g 87 (([pt fi] : List Value) ++ (([.map (some s)] : List Value) ++ (([ς q f.length k] : List Value) ++ (bls L ++ ([ς SA SN SC] : List Value))))) :: mpf s (F.map feM) c2 :: κ 3 .i64 q f.length k n5 :: rws .i64 G5 :: blk fi 51 [pt wj, .map (some mp), ς NA nk nc, η dd] :: blk wj 71 [pt d] :: δ d A n c ss Wl ml wl wsl ll dl []) [ν .i64 SA M, ν .u8 u t] [blk J 31 [.string x, ς u t.length y, η z], κ 3 .i64 l a.length o a, mpf mp (Fs.map feM) fc, κ 3 .i64 NA nk nc ns, vw La (recV fcC ls), vws (rowsL .u8 (fcR ls))] (fl_put_spec g fi s F c2 G5 q k f.length n5 L M SA SN SC wj (.map (some mp)) NA nk nc dd d A n c ss Wl ml wl wsl ll dl x u y t t.length ‹_› ‹_› ‹_› (by exact febl_n ‹_› (by omega)) ‹_› (fun h => B0 (by exact h)) ‹_› (by omega) ‹_› (by omega) ‹_› ‹_› ‹_› (by exact all_n f0 (by omega)) (by exact all_in f0 (by omega)) (by exact (cm_pre hP hBg v ‹_› hSN).1) (by exact (cm_pre hP hBg v ‹_› hSN).2) P1 ‹_› (by exact small_of_need (cm_pre hP hBg v ‹_› hSN).1 V0) hss ‹_› ‹_› (fun h => hAs (by exact h)) ‹_› ‹_› ‹_› (by omega) ‹_› ‹_› (fun h => hWl (by exact h)) ‹_› (by rfl)) [1, 1, 1, 1, 5, 7, 1, 6, 1, 1] (((Lend.nil _).tells 5 (vws (rowsL .u8 (fcR ls))) u (nums .u8 t) (by kernel_rfl) (tells_fcL v)).tells 1 (κ 3 .i64 l a.length o a) SA (nums .i64 M) (by kernel_rfl) (hT _ (tells_row _ _ _ _ _ _))) ?_)
  rintro _ _ (⟨C, u0, P0, h0, l0, p0, n0, rfl, rfl, G1, C1, N2, Y2, W2, T2, A1, i3⟩ | ⟨v0, x0, o0, i0, M0, t0, a1, Z0, T0, L0, Y0, A0, y0, S0, k3, M2, j3, B1, rfl, rfl, L1, Q2, O2, S2, a3, K1, h3, s0, K, E1, r1, f2, i1, W1, H0, C0, w2, p2, h1, l2, u1⟩)
  ·refine RunR.sl hU [] 1 7 [0, 6, 11, 37, 38, 39] [(0, pt fi), (6, pt g), (11, ι C), (37, ς La lm lc), (38, ι (lm : Int)), (39, ι j)] 1 ?_
   refine RunR.nx ?_
   refine RunR.sl hU [] 2 2 [0, 6, 11, 37, 38, 39, 52] [(0, pt fi), (6, pt g), (11, ι C), (37, ς La lm lc), (38, ι (lm : Int)), (39, ι j), (52, η (!decide (C = 0)))] 2 ?_
   refine RunR.ev [0, 6, 11, 37, 38, 39, 52] [(0, pt fi), (6, pt g), (11, ι C), (37, ς La lm lc), (38, ι (lm : Int)), (39, ι j), (52, η (!decide (C = 0)))] ?_
   have t1 : ¬ (C = 0) := by exact C1
   refine RunR.enveq [(0, pt fi), (6, pt g), (11, ι C), (37, ς La lm lc), (38, ι (lm : Int)), (39, ι j), (52, η true)] (by rw [decide_eq_false t1]; try rfl) ?_
   refine RunR.nn ?_
   refine RunC.cond (b := true) (by kernel_rfl) (fun _ => ?_) (fun h => by cases h)
   refine RunC.sr ?_
   refine RunR.sl hU [] 2 2 [0, 6, 37, 38, 39, 53, 54] [(0, pt fi), (6, pt g), (37, ς La lm lc), (38, ι (lm : Int)), (39, ι j), (53, pt fi), (54, ι C)] 2 ?_
   refine RunR.st (some 55) (.call { callee := .value (.func 18), args := #[.tmp 53, .tmp 54], argTypes := #[24, 28] }) (Step.cn 18 [pt fi, ι C] [blk fi 51 [pt wj, .map (some mp), ς NA nk nc, η dd]] (rws .i64 G5 :: blk wj 71 [pt d] :: δ d A n c ss u0 P0 h0 l0 p0 n0 [blk J 31 [.string x, ς u t.length y, η z], κ 3 .i64 l a.length o a, mpf mp (Fs.map feM) fc, κ 3 .i64 NA nk nc ns, vw La (recV fcC ls), vws (rowsL .u8 (fcR ls))]) (fl_fell_spec fi wj (.map (some mp)) NA nk nc dd C) [1] ?_)
   rintro _ _ ⟨D0, rfl, rfl, s1⟩
   refine RunR.sl hU [] 1 4 [0, 4, 6, 37, 38, 39] [(0, pt fi), (4, ι C), (6, pt g), (37, ς La lm lc), (38, ι (lm : Int)), (39, ι j)] 1 ?_
   refine RunR.nn ?_
   refine RunC.ret ?_
   refine kblock_r ?_
   refine kseq_r ?_
   refine kloop_r ?_
   refine kblock_r ?_
   refine kseq_r ?_
   refine kret_r [ι C] [0, 8, 8, 0, 0, 0, 0, 0, 0] (blk fi 51 [pt wj, .map (some mp), ς NA nk nc, η D0] :: mpf mp (Fs.map feM) fc :: κ 3 .i64 NA nk nc ns :: rws .i64 G5 :: blk wj 71 [pt d] :: δ d A n c ss u0 P0 h0 l0 p0 n0 []) ⟨rfl, trivial⟩ (by kernel_rfl) rfl ⟨C, mp, Fs, fc, G5, NA, nk, nc, ns, D0, ss, u0, P0, h0, l0, p0, n0, rfl, rfl, (by exact cm_put ‹_› hBg hP v ‹_› hW G1 ‹_› s1), ‹_›, ‹_›, (by exact fun e_ he_ => hGs _ (hFi e_ he_)), ‹_›, ‹_›, (by omega), (fun h => hNA (by exact h)), ‹_›, ‹_›, hss, ‹_›, ‹_›, (by have h_ := (cm_pre hP hBg v ‹_› hSN).1; omega), ‹_›, ‹_›, (fun h => A1 (by exact h)), ‹_›⟩
  refine RunR.sl hU [] 1 7 [0, 6, 11, 37, 38, 39] [(0, pt fi), (6, pt g), (11, ι 0), (37, ς La lm lc), (38, ι (lm : Int)), (39, ι j)] 1 ?_
  refine RunR.nx ?_
  refine RunR.sl hU [] 2 2 [0, 6, 11, 37, 38, 39, 52] [(0, pt fi), (6, pt g), (11, ι 0), (37, ς La lm lc), (38, ι (lm : Int)), (39, ι j), (52, η false)] 2 ?_
  refine RunR.nn ?_
  refine RunC.cond (b := false) (by kernel_rfl) (fun h => by cases h) (fun _ => ?_)
  refine RunC.skip ?_
  refine kblock_n ?_
  refine kseq_n ?_
  refine RunC.region ?_
  refine RunR.sil hU [0] 2 2 [0, 6, 37, 38, 39] [(0, pt fi), (6, pt g), (37, ς La lm lc), (38, ι (lm : Int)), (39, ι (j + 1))] ((-9223372036854775808 ≤ (j + 1) ∧ (j + 1) < 9223372036854775808) ∧ (True) ∧ True) rfl (by kernel_rfl) ⟨(by omega), trivial, trivial⟩ ?_
  refine RunR.dn ?_
  refine kloop_n _ [0, 6, 37, 38, 39] [0, 0, 0, 0, 2, 3, 3, 4, 0, 3, 3, 0, 0, 1, 1] [(0, pt fi), (6, pt g), (37, ς La lm lc), (38, ι (lm : Int)), (39, ι (j + 1))] (blk g 87 (([pt fi] : List Value) ++ (([.map (some s)] : List Value) ++ (([ς q f.length k] : List Value) ++ (bls L0 ++ ([ς Y0 A0 y0] : List Value))))) :: mpf s (a1.map feM) Z0 :: κ 3 .i64 q f.length k T0 :: rws .i64 S0 :: blk d 47 [ς A n c, ς v0 x0 o0, ι M0, η t0] :: ξ v0 x0 o0 i0 :: chd .u8 i0 :: κ 3 .i64 l a.length o a :: ζ fi wj mp Fs fc NA nk nc ns dd [blk wj 71 [pt d], κ 5 .u8 A n c ss, vw La (recV fcC ls), vws (rowsL .u8 (fcR ls))]) (by kernel_rfl) (by kernel_rfl) ?_ ⟨(j + 1), a1, Z0, T0, L0, S0, Y0, A0, y0, (M.drop (need (t.length : Int)).toNat), (W ++ putW B1 t), v0, x0, o0, i0, M0, t0, (by omega), ‹_›, (by exact put_next hj hP v ‹_› s0 K r1 i1 H0), (by exact wrs_join hW L1), (by exact fun f_ h_ => u1 f_ (hT f_ h_)), (by rw [h1, List.length_drop]; omega), ‹_›, (by omega), (by have _ := K; exact fun i_ h_ => f0 i_ (List.mem_of_mem_drop h_)), (by rw [C0]; exact fun r_ h_ => List.mem_cons_of_mem _ (hGs r_ h_)), (by have hx_ := H0; exact put_fe S1 K ⟨hx_.1, hx_.2.1⟩ (by rw [s0]; exact (all_in f0 (by omega)).take _) ‹_› ‹_› (small_of_need (cm_pre hP hBg v ‹_› hSN).1 V0) (by rw [s0, List.length_take]; omega)), (by exact put_fm Q1 K E1), (by exact put_fi O1 K C0), (by exact put_fb I1 K s0 f0 (by have h_ := (cm_pre hP hBg v ‹_› hSN).1; omega)), ‹_›, ‹_›, ‹_›, (by have _ := K; rw [needs_put hj v ‹_›]; omega), ‹_›, ‹_›, (fun h => K1 (by exact h)), ‹_›, rfl, (by rfl), (by rfl)⟩
  show ((lm - (j + 1)).toNat : Nat) < ((lm - j).toNat : Nat)
  omega
 refine RunC.exit ?_
 refine kseq_e ?_
 refine kloop_e ?_
 refine kblock_e ?_
 refine kseq_n ?_
 refine RunC.sr ?_
 refine RunR.sl hU [] 2 2 [57, 58] [(57, pt fi), (58, pt g)] 2 ?_
 refine RunR.st (some 59) (.call { callee := .value (.func 19), args := #[.tmp 58], argTypes := #[52] }) (Step.cl 19 [pt g] (blk g 87 (([pt fi] : List Value) ++ (([.map (some s)] : List Value) ++ (([ς q f.length k] : List Value) ++ (bls L ++ ([ς SA SN SC] : List Value))))) :: mpf s (F.map feM) c2 :: rws .i64 G5 :: blk fi 51 [pt wj, .map (some mp), ς NA nk nc, η dd] :: blk wj 71 [pt d] :: δ d A n c ss Wl ml wl wsl ll dl []) [ν .i64 q n5] [κ 3 .i64 q f.length k n5, κ 3 .i64 l a.length o a, mpf mp (Fs.map feM) fc, κ 3 .i64 NA nk nc ns, vw La (recV fcC ls), vws (rowsL .u8 (fcR ls))] (fl_done_spec g fi s F c2 G5 q k n5 L SA SN SC wj (.map (some mp)) NA nk nc dd d A n c ss Wl ml wl wsl ll dl f.length ‹_› ‹_› ‹_› (by exact good_fed (cm_ed hP hBg (by omega)).good) (by exact bnd_in (good_bnd (cm_ed hP hBg (by omega)).good)) (by exact good_bnd (cm_ed hP hBg (by omega)).good) (by omega) (by omega) hss ‹_› ‹_› (fun h => hAs (by exact h)) ‹_› ‹_› ‹_› (by omega) ‹_› ‹_› (fun h => hWl (by exact h)) (by omega) ‹_› ‹_›) [0, 0, 1, 5, 7, 1, 6, 1, 1] ((Lend.nil _).tells 0 (κ 3 .i64 q f.length k n5) q (nums .i64 n5) (by kernel_rfl) (tells_row _ _ _ _ _ _)) ?_)
 rintro _ _ (⟨e0, X, r0, m0, R, Z, b0, Y, s2, u2, rfl, rfl, g1, f1, o2, m1, n2, e1, A2, j2, Y1, y2, z2, c1, i2⟩ | ⟨c0, T, j0, q0, V, S, a0, Q, B2, g2, rfl, rfl, d1, o1, D2, j1, v2, n1, Z1, E2, C2, t2, X1, p1, x2⟩)
 ·refine RunR.st (some 60) (.call { callee := .value (.func 18), args := #[.tmp 57, .tmp 59], argTypes := #[24, 28] }) (Step.cn 18 [pt fi, ι e0] [blk fi 51 [pt wj, .map (some s), ς q f.length k, η dd]] (mpf s (F.map feM) c2 :: rws .i64 G5 :: blk wj 71 [pt d] :: δ d A n c X r0 m0 R Z b0 Y [κ 3 .i64 q f.length k n5, κ 3 .i64 l a.length o a, mpf mp (Fs.map feM) fc, κ 3 .i64 NA nk nc ns, vw La (recV fcC ls), vws (rowsL .u8 (fcR ls))]) (fl_fell_spec fi wj (.map (some s)) q f.length k dd e0) [0] ?_)
  rintro _ _ ⟨N0, rfl, rfl, v1⟩
  refine RunR.sl hU [] 1 5 [4] [(4, ι e0)] 1 ?_
  refine RunR.nn ?_
  refine RunC.ret ?_
  refine kret_r [ι e0] [0, 0, 6, 0, 0, 0, 0, 0, 0] (blk fi 51 [pt wj, .map (some s), ς q f.length k, η N0] :: mpf s (F.map feM) c2 :: κ 3 .i64 q f.length k n5 :: rws .i64 G5 :: blk wj 71 [pt d] :: δ d A n c X r0 m0 R Z b0 Y []) ⟨rfl, trivial⟩ (by kernel_rfl) rfl ⟨e0, s, F, c2, G5, q, f.length, k, n5, N0, X, r0, m0, R, Z, b0, Y, rfl, rfl, (by exact (cm_end ‹_› hBg hP (by omega) hW g1 f1 ‹_› m1).2 ‹_› v1), ‹_›, ‹_›, ‹_›, (by exact good_k (cm_ed hP hBg (by omega)).good ‹_›), ‹_›, ‹_›, (fun h => B0 (by exact h)), ‹_›, (by exact good_bnd (cm_ed hP hBg (by omega)).good), e1, ‹_›, ‹_›, (by omega), ‹_›, ‹_›, (fun h => c1 (by exact h)), ‹_›⟩
 refine RunR.st (some 60) (.call { callee := .value (.func 18), args := #[.tmp 57, .tmp 59], argTypes := #[24, 28] }) (Step.cn 18 [pt fi, ι c0] [blk fi 51 [pt wj, .map (some mp), ς NA nk nc, η dd]] (rws .i64 G5 :: blk wj 71 [pt d] :: δ d A n c T j0 q0 V S a0 Q [κ 3 .i64 q f.length k n5, κ 3 .i64 l a.length o a, mpf mp (Fs.map feM) fc, κ 3 .i64 NA nk nc ns, vw La (recV fcC ls), vws (rowsL .u8 (fcR ls))]) (fl_fell_spec fi wj (.map (some mp)) NA nk nc dd c0) [1] ?_)
 rintro _ _ ⟨F0, rfl, rfl, l1⟩
 refine RunR.sl hU [] 1 5 [4] [(4, ι c0)] 1 ?_
 refine RunR.nn ?_
 refine RunC.ret ?_
 refine kret_r [ι c0] [0, 8, 8, 0, 0, 0, 0, 0, 0] (blk fi 51 [pt wj, .map (some mp), ς NA nk nc, η F0] :: mpf mp (Fs.map feM) fc :: κ 3 .i64 NA nk nc ns :: rws .i64 G5 :: blk wj 71 [pt d] :: δ d A n c T j0 q0 V S a0 Q []) ⟨rfl, trivial⟩ (by kernel_rfl) rfl ⟨c0, mp, Fs, fc, G5, NA, nk, nc, ns, F0, T, j0, q0, V, S, a0, Q, rfl, rfl, (by exact (cm_end ‹_› hBg hP (by omega) hW d1 o1 ‹_› j1).1 ‹_› l1), ‹_›, ‹_›, (by exact fun e_ he_ => hGs _ (hFi e_ he_)), ‹_›, ‹_›, (by omega), (fun h => hNA (by exact h)), ‹_›, ‹_›, n1, ‹_›, ‹_›, (by omega), ‹_›, ‹_›, (fun h => p1 (by exact h)), ‹_›⟩
end Go.Proofs.Ytlibhidhfbecbaa.LFileOne
