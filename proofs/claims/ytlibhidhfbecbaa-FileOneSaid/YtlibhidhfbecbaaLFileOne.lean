import Derived.Test.YtlibhidhfbecbaaOnePure
import Derived.Test.YtlibhidhfbecbaaProg
import Derived.Test.YtlibhidhfbecbaaYB
namespace Go.Proofs.Ytlibhidhfbecbaa.LFileOne
open Go Go.Proofs.Ytlibhidhfbecbaa.SL Go.Proofs.Ytlibhidhfbecbaa.SL.W Go.Proofs.Ytlibhidhfbecbaa.SL.D Go.Proofs.Ytlibhidhfbecbaa.SL.I Go.Proofs.Ytlibhidhfbecbaa.XT
set_option linter.unusedVariables false
set_option linter.unusedSimpArgs false
set_option maxRecDepth 100000
set_option maxHeartbeats 40000000
theorem lw_FileOne_spec (nm : ByteArray) (Aa : Option Addr) (ca_ : Nat) (xa : List Int) (Ab : Option Addr) (cb_ : Nat) (xb : List Int) (l_xa : Nat) (l_xb : Nat) (hIxa : In .u8 xa) (hCxa : xa.length ≤ ca_) (hBxa : xa.length ≤ 140737488351232) (hIxb : In .u8 xb) (hCxb : xb.length ≤ cb_) (hBxb : xb.length ≤ 140737488351232) (hl_xa : xa.length = l_xa) (hl_xb : xb.length = l_xb) :
 CallsS Try.prog 3 [.string nm, ς Aa l_xa ca_, ς Ab l_xb cb_] [ν .u8 Aa xa, ν .u8 Ab xb] (fun r D => r = η true ∧ D = []) := by
 subst hl_xa
 subst hl_xb
 refine CallsS.enter hU Try.f3 _ [.tmp 6] 138 Try.func3 rfl (by decide) rfl rfl (by kernel_rfl) fun w0 W => ?_
 refine RunC.know (p := 0 < xa.length → Option.isSome Aa = true) (fun _ _ w hs => vw_some hs 0 rfl (by (simp [nums_length]; done))) (fun P5 => ?_)
 refine RunC.know (p := 0 < xb.length → Option.isSome Ab = true) (fun _ _ w hs => vw_some hs 1 rfl (by (simp [nums_length]; done))) (fun Q5 => ?_)
 refine RunC.sr ?_
 refine RunR.sl hU [] 1 1 [0, 1, 2, 6] [(0, .string nm), (1, ς Aa xa.length ca_), (2, ς Ab xb.length cb_), (6, η false)] 1 ?_
 refine RunR.nn ?_
 refine RunC.seq ?_
 refine RunC.sr ?_
 refine RunR.st (some 18) (.call { callee := .value (.func 4), args := #[], argTypes := #[] }) (Step.cn 4 [] [] [ν .u8 Aa xa, ν .u8 Ab xb] (lw_awake_spec) [] ?_)
 rintro _ _ ⟨rfl, rfl⟩
 refine RunR.sl hU [] 1 2 [0, 1, 2, 6, 19] [(0, .string nm), (1, ς Aa xa.length ca_), (2, ς Ab xb.length cb_), (6, η false), (19, η false)] 1 ?_
 refine RunR.nn ?_
 refine RunC.cond (b := false) (by kernel_rfl) (fun h => by cases h) (fun _ => ?_)
 refine RunC.ks ?_
 refine RunC.seq ?_
 refine RunC.sr ?_
 refine RunR.sl hU [] 4 4 [0, 1, 2, 6, 23] [(0, .string nm), (1, ς Aa xa.length ca_), (2, ς Ab xb.length cb_), (6, η false), (23, η (decide (((nm : ByteArray).size : Int) > 100)))] 4 ?_
 refine RunR.ev [0, 1, 2, 6, 23] [(0, .string nm), (1, ς Aa xa.length ca_), (2, ς Ab xb.length cb_), (6, η false), (23, η (decide (((nm : ByteArray).size : Int) > 100)))] ?_
 by_cases h3 : ((nm : ByteArray).size : Int) > 100
 ·refine RunR.enveq [(0, .string nm), (1, ς Aa xa.length ca_), (2, ς Ab xb.length cb_), (6, η false), (23, η true)] (by rw [decide_eq_true h3]; try rfl) ?_
  refine RunR.sl hU [] 9 13 [0, 1, 2, 6, 32] [(0, .string nm), (1, ς Aa xa.length ca_), (2, ς Ab xb.length cb_), (6, η false), (32, η true)] 3 ?_
  refine RunR.nn ?_
  refine RunC.cond (b := true) (by kernel_rfl) (fun _ => ?_) (fun h => by cases h)
  refine RunC.sr ?_
  refine RunR.sl hU [] 1 1 [0, 1, 2, 6] [(0, .string nm), (1, ς Aa xa.length ca_), (2, ς Ab xb.length cb_), (6, η true)] 1 ?_
  refine RunR.nn ?_
  refine RunC.ret ?_
  refine kseq_r ?_
  refine kret_r [η true] [] [] ⟨rfl, trivial⟩ (by kernel_rfl) rfl ⟨rfl, rfl⟩
 refine RunR.enveq [(0, .string nm), (1, ς Aa xa.length ca_), (2, ς Ab xb.length cb_), (6, η false), (23, η false)] (by rw [decide_eq_false h3]; try rfl) ?_
 refine RunR.sl hU [] 5 9 [0, 1, 2, 6, 28] [(0, .string nm), (1, ς Aa xa.length ca_), (2, ς Ab xb.length cb_), (6, η false), (28, η (decide ((xa.length : Int) > 20000)))] 5 ?_
 refine RunR.ev [0, 1, 2, 6, 28] [(0, .string nm), (1, ς Aa xa.length ca_), (2, ς Ab xb.length cb_), (6, η false), (28, η (decide ((xa.length : Int) > 20000)))] ?_
 by_cases h4 : (xa.length : Int) > 20000
 ·refine RunR.enveq [(0, .string nm), (1, ς Aa xa.length ca_), (2, ς Ab xb.length cb_), (6, η false), (28, η true)] (by rw [decide_eq_true h4]; try rfl) ?_
  refine RunR.sl hU [] 4 13 [0, 1, 2, 6, 32] [(0, .string nm), (1, ς Aa xa.length ca_), (2, ς Ab xb.length cb_), (6, η false), (32, η true)] 1 ?_
  refine RunR.nn ?_
  refine RunC.cond (b := true) (by kernel_rfl) (fun _ => ?_) (fun h => by cases h)
  refine RunC.sr ?_
  refine RunR.sl hU [] 1 1 [0, 1, 2, 6] [(0, .string nm), (1, ς Aa xa.length ca_), (2, ς Ab xb.length cb_), (6, η true)] 1 ?_
  refine RunR.nn ?_
  refine RunC.ret ?_
  refine kseq_r ?_
  refine kret_r [η true] [] [] ⟨rfl, trivial⟩ (by kernel_rfl) rfl ⟨rfl, rfl⟩
 refine RunR.enveq [(0, .string nm), (1, ς Aa xa.length ca_), (2, ς Ab xb.length cb_), (6, η false), (28, η false)] (by rw [decide_eq_false h4]; try rfl) ?_
 refine RunR.sl hU [] 4 13 [0, 1, 2, 6, 32] [(0, .string nm), (1, ς Aa xa.length ca_), (2, ς Ab xb.length cb_), (6, η false), (32, η (decide ((xb.length : Int) > 20000)))] 4 ?_
 refine RunR.nn ?_
 refine RunC.condp ((xb.length : Int) > 20000) (by kernel_rfl) (fun h5 => ?_) (fun h5 => ?_)
 ·refine RunC.sr ?_
  refine RunR.sl hU [] 1 1 [0, 1, 2, 6] [(0, .string nm), (1, ς Aa xa.length ca_), (2, ς Ab xb.length cb_), (6, η true)] 1 ?_
  refine RunR.nn ?_
  refine RunC.ret ?_
  refine kseq_r ?_
  refine kret_r [η true] [] [] ⟨rfl, trivial⟩ (by kernel_rfl) rfl ⟨rfl, rfl⟩
 refine RunC.ksr ?_
 refine RunR.st (some 33) (.call { callee := .value (.func 6), args := #[.const (ι 174)], argTypes := #[3] }) (Step.cn 6 [ι 174] [] [ν .u8 Aa xa, ν .u8 Ab xb] (d_New_spec 174 (by (refine ⟨?_, ?_⟩ <;> omega))) [] ?_)
 rintro _ _ ⟨j, E, G, F, a2, rfl, rfl, e3, L5, n5, M0, J5, k5, E5, g3⟩
 have m4 := dn_bd g3
 refine RunR.st (some 34) (.call { callee := .value (.func 5), args := #[.tmp 33], argTypes := #[26] }) (Step.cn 5 [pt j] (δ j E G F a2 none 0 0 ([] : List Ch) 0 false []) [ν .u8 Aa xa, ν .u8 Ab xb] (lw_open_spec j E G F a2 none 0 0 ([] : List Ch) 0 false e3 ‹_› ‹_› (fun h => M0 (by exact h)) ‹_› ‹_› (by rfl) (by omega) (by exact ChOK.nil _) (by exact WOK.nil _) (fun h => absurd h (by decide)) (by omega)) [0, 0, 0, 0] ?_)
 rintro _ _ (⟨rfl, rfl, b2⟩ | ⟨a, i, w1, M1, V1, O2, v1, t1, s1, P1, C1, T1, R1, y1, D1, F1, z1, rfl, rfl, a3, s5, w5, F5, B5, O5, i5, f5, e5, d3, t5, V2, q5, p5, I5, C5, z5, Z2, x5⟩)
 ·first | (have M2 := lw_new b2 ‹_› rfl D.calm0 ‹_› ‹_› ‹_› ‹_› ‹_› ‹_› ‹_›; obtain ⟨x3, A3, E3, G3⟩ := M2) | skip
  exact (lw_bad b2 ‹_› rfl D.calm0 (by unfold datN; split <;> omega)).elim
 first | (have t2 := lw_new a3 ‹_› rfl D.calm0 ‹_› ‹_› ‹_› ‹_› ‹_› ‹_› ‹_›; obtain ⟨x4, L4, s4, S4⟩ := t2) | skip
 refine RunR.sl hU [] 1 3 [0, 1, 2, 6, 7] [(0, .string nm), (1, ς Aa xa.length ca_), (2, ς Ab xb.length cb_), (6, η false), (7, pt a)] 1 ?_
 refine RunR.nn ?_
 refine RunC.seq ?_
 refine RunC.sr ?_
 refine RunR.sl hU [] 2 2 [0, 1, 2, 6, 7, 36] [(0, .string nm), (1, ς Aa xa.length ca_), (2, ς Ab xb.length cb_), (6, η false), (7, pt a), (36, η false)] 2 ?_
 refine RunR.nn ?_
 refine RunC.cond (b := false) (by kernel_rfl) (fun h => by cases h) (fun _ => ?_)
 refine RunC.ksr ?_
 refine RunR.sl hU [] 4 4 [0, 1, 2, 6, 7, 37, 40] [(0, .string nm), (1, ς Aa xa.length ca_), (2, ς Ab xb.length cb_), (6, η false), (7, pt a), (37, pt a), (40, .agg #[.string nm, ς Aa xa.length ca_, η false])] 4 ?_
 refine RunR.st (some 41) (.buildSlice 32 1 #[(0, .tmp 40)]) (Step.lit_31 hU 31 48 (.agg #[.string ⟨#[]⟩, ς0, η false]) (.string nm) (ς Aa xa.length ca_) (η false) (by kernel_rfl) (by kernel_rfl) (by kernel_rfl) (by kernel_rfl) (fun M => ?_))
 refine RunR.turn ((row 31 3 (ς (ad M) 1 1) 1 (recV fcC ([(nm, false, Aa, ca_, xa)] : List Fc)) :: blk a 51 [pt i, .map (some w1), ς v1 t1 s1, η false] :: mpf w1 (M1.map feM) V1 :: κ 3 .i64 v1 t1 s1 P1 :: rws .i64 O2 :: blk i 71 [pt j] :: δ j E G F C1 T1 R1 y1 D1 F1 z1 [ν .u8 Aa xa, ν .u8 Ab xb])) (fun _ _ w hs => hs) ?_
 refine RunR.st (some 42) (.call { callee := .value (.func 7), args := #[.tmp 37, .tmp 41], argTypes := #[24, 32] }) (Step.cl 7 [pt a, ς (ad M) 1 1] (blk a 51 [pt i, .map (some w1), ς v1 t1 s1, η false] :: mpf w1 (M1.map feM) V1 :: κ 3 .i64 v1 t1 s1 P1 :: rws .i64 O2 :: blk i 71 [pt j] :: δ j E G F C1 T1 R1 y1 D1 F1 z1 []) [vw (ad M) (recV fcC ([(nm, false, Aa, ca_, xa)] : List Fc)), vws (rowsL .u8 (fcR ([(nm, false, Aa, ca_, xa)] : List Fc)))] [row 31 3 (ς (ad M) 1 1) 1 (recV fcC ([(nm, false, Aa, ca_, xa)] : List Fc)), ν .u8 Aa xa, ν .u8 Ab xb] (fl_Commit_spec a i false w1 M1 V1 O2 v1 t1 s1 P1 j E G F C1 T1 R1 y1 D1 F1 z1 (ad M) 1 1 ([(nm, false, Aa, ca_, xa)] : List Fc) ‹_› ‹_› ‹_› (by exact good_k (FS.good ‹_›) (by omega)) ‹_› ‹_› (by omega) (fun h => d3 (by exact h)) ‹_› (by exact good_bnd (FS.good ‹_›)) V2 ‹_› ‹_› (fun h => M0 (by exact h)) ‹_› ‹_› ‹_› (by omega) ‹_› ‹_› (fun h => Z2 (by exact h)) ‹_› (by rfl) (by omega) (by exact RowsOK.cons ‹_› (by omega) (by omega) (RowsOK.nil _)) (by exact Nat.le_trans (fs_len ‹_›) (by decide))) [1, 1, 1, 1, 1, 1, 1, 1, 1] ((((Lend.nil _).rows0 .u8).rows1 1 (ν .u8 Aa xa) Aa ca_ xa (by kernel_rfl) (tells_vw _ _)).tells 0 (row 31 3 (ς (ad M) 1 1) 1 (recV fcC ([(nm, false, Aa, ca_, xa)] : List Fc))) (ad M) (recV fcC ([(nm, false, Aa, ca_, xa)] : List Fc)) (by kernel_rfl) (tells_row _ _ _ _ _ _)) ?_)
 rintro _ _ ⟨C, K, S0, m0, d1, I, J, L, E0, L0, z0, m1, k1, B0, A0, D0, C0, rfl, rfl, X2, v5, j5, l5, y5, G5, M5, c2, A5, K5, Y1, o5, N5, m5, g5, r5, Z1, u5⟩
 have Z0 := cm_calm X2 ‹_› ‹_› ‹_› (by rfl) ‹_›; obtain ⟨V3, e4, F3, W0, Y0⟩ := Z0; first | (have Z0 := on1 ‹_› ‹_› ‹_› W0 Y0; have N1 := Z0.fs; clear Y0 W0) | (have Z0 := on2 (On1.yes ‹_› ‹_›) (by omega) W0 Y0; have N1 := Z0.fs; clear Y0 W0) | (obtain ⟨Z0, N1, D5⟩ := on3 ‹_› (by omega) W0 Y0; clear Y0 W0)
 refine RunR.sl hU [] 1 7 [0, 1, 2, 6, 7, 8] [(0, .string nm), (1, ς Aa xa.length ca_), (2, ς Ab xb.length cb_), (6, η false), (7, pt a), (8, ι C)] 1 ?_
 refine RunR.nn ?_
 refine RunC.seq ?_
 refine RunC.sr ?_
 refine RunR.sl hU [] 4 4 [0, 1, 2, 6, 7, 8, 46] [(0, .string nm), (1, ς Aa xa.length ca_), (2, ς Ab xb.length cb_), (6, η false), (7, pt a), (8, ι C), (46, η (decide (((nm : ByteArray).size : Int) < 1)))] 4 ?_
 refine RunR.ev [0, 1, 2, 6, 7, 8, 46] [(0, .string nm), (1, ς Aa xa.length ca_), (2, ς Ab xb.length cb_), (6, η false), (7, pt a), (8, ι C), (46, η (decide (((nm : ByteArray).size : Int) < 1)))] ?_
 by_cases h96 : ((nm : ByteArray).size : Int) < 1
 ·refine RunR.enveq [(0, .string nm), (1, ς Aa xa.length ca_), (2, ς Ab xb.length cb_), (6, η false), (7, pt a), (8, ι C), (46, η true)] (by rw [decide_eq_true h96]; try rfl) ?_
  refine RunR.sl hU [] 4 8 [0, 1, 2, 6, 7, 8, 50] [(0, .string nm), (1, ς Aa xa.length ca_), (2, ς Ab xb.length cb_), (6, η false), (7, pt a), (8, ι C), (50, η true)] 1 ?_
  refine RunR.nn ?_
  refine RunC.cond (b := true) (by kernel_rfl) (fun _ => ?_) (fun h => by cases h)
  refine RunC.sr ?_
  refine RunR.sl hU [] 3 3 [0, 1, 2, 6, 7, 8, 53] [(0, .string nm), (1, ς Aa xa.length ca_), (2, ς Ab xb.length cb_), (6, η false), (7, pt a), (8, ι C), (53, η (decide (C = 1)))] 3 ?_
  refine RunR.ev [0, 1, 2, 6, 7, 8, 53] [(0, .string nm), (1, ς Aa xa.length ca_), (2, ς Ab xb.length cb_), (6, η false), (7, pt a), (8, ι C), (53, η (decide (C = 1)))] ?_
  have Y2 : (C = 1) := by exact (On1.bad ‹_› (by omega)).1
  refine RunR.enveq [(0, .string nm), (1, ς Aa xa.length ca_), (2, ς Ab xb.length cb_), (6, η false), (7, pt a), (8, ι C), (53, η true)] (by rw [decide_eq_true Y2]; try rfl) ?_
  refine RunR.sl hU [] 1 4 [0, 1, 2, 6, 7, 8, 53, 54] [(0, .string nm), (1, ς Aa xa.length ca_), (2, ς Ab xb.length cb_), (6, η false), (7, pt a), (8, ι C), (53, η true), (54, pt a)] 1 ?_
  refine RunR.st (some 55) (.call { callee := .value (.func 8), args := #[.tmp 54], argTypes := #[24] }) (Step.cn 8 [pt a] [blk a 51 [pt i, .map (some K), ς I J L, η L0], mpf K (S0.map feM) m0] (κ 3 .i64 I J L E0 :: rws .i64 d1 :: blk i 71 [pt j] :: δ j E G F z0 m1 k1 B0 A0 D0 C0 [row 31 3 (ς (ad M) 1 1) 1 (recV fcC ([(nm, false, Aa, ca_, xa)] : List Fc)), ν .u8 Aa xa, ν .u8 Ab xb]) (fl_Names_spec a i L0 K S0 m0 I J L ([] : List Int) ‹_› ‹_› (by exact Nat.le_trans (fs_len ‹_›) (by decide))) [0, 0] ?_)
  rintro _ _ ⟨H5, L1, Y4, B3, rfl, rfl, z4, v3, n4, C4, I4⟩
  refine RunR.sl hU [] 4 9 [0, 1, 2, 6, 7, 8] [(0, .string nm), (1, ς Aa xa.length ca_), (2, ς Ab xb.length cb_), (6, η (decide ((L1 : Int) = 0))), (7, pt a), (8, ι C)] 4 ?_
  refine RunR.ev [0, 1, 2, 6, 7, 8] [(0, .string nm), (1, ς Aa xa.length ca_), (2, ς Ab xb.length cb_), (6, η (decide ((L1 : Int) = 0))), (7, pt a), (8, ι C)] ?_
  have w2 : ((L1 : Int) = 0) := by have h_ := nil_len (On1.bad ‹_› (by omega)).2; omega
  refine RunR.enveq [(0, .string nm), (1, ς Aa xa.length ca_), (2, ς Ab xb.length cb_), (6, η true), (7, pt a), (8, ι C)] (by rw [decide_eq_true w2]; try rfl) ?_
  refine RunR.nn ?_
  refine RunC.ret ?_
  refine kseq_r ?_
  refine kret_r [η true] [] [] ⟨rfl, trivial⟩ (by kernel_rfl) rfl ⟨rfl, rfl⟩
 refine RunR.enveq [(0, .string nm), (1, ς Aa xa.length ca_), (2, ς Ab xb.length cb_), (6, η false), (7, pt a), (8, ι C), (46, η false)] (by rw [decide_eq_false h96]; try rfl) ?_
 refine RunR.sl hU [] 4 8 [0, 1, 2, 6, 7, 8, 50] [(0, .string nm), (1, ς Aa xa.length ca_), (2, ς Ab xb.length cb_), (6, η false), (7, pt a), (8, ι C), (50, η (decide (((nm : ByteArray).size : Int) > 40)))] 4 ?_
 refine RunR.nn ?_
 refine RunC.condp (((nm : ByteArray).size : Int) > 40) (by kernel_rfl) (fun W2 => ?_) (fun W2 => ?_)
 ·refine RunC.sr ?_
  refine RunR.sl hU [] 3 3 [0, 1, 2, 6, 7, 8, 53] [(0, .string nm), (1, ς Aa xa.length ca_), (2, ς Ab xb.length cb_), (6, η false), (7, pt a), (8, ι C), (53, η (decide (C = 1)))] 3 ?_
  refine RunR.ev [0, 1, 2, 6, 7, 8, 53] [(0, .string nm), (1, ς Aa xa.length ca_), (2, ς Ab xb.length cb_), (6, η false), (7, pt a), (8, ι C), (53, η (decide (C = 1)))] ?_
  have Q2 : (C = 1) := by exact (On1.bad ‹_› (by omega)).1
  refine RunR.enveq [(0, .string nm), (1, ς Aa xa.length ca_), (2, ς Ab xb.length cb_), (6, η false), (7, pt a), (8, ι C), (53, η true)] (by rw [decide_eq_true Q2]; try rfl) ?_
  refine RunR.sl hU [] 1 4 [0, 1, 2, 6, 7, 8, 53, 54] [(0, .string nm), (1, ς Aa xa.length ca_), (2, ς Ab xb.length cb_), (6, η false), (7, pt a), (8, ι C), (53, η true), (54, pt a)] 1 ?_
  refine RunR.st (some 55) (.call { callee := .value (.func 8), args := #[.tmp 54], argTypes := #[24] }) (Step.cn 8 [pt a] [blk a 51 [pt i, .map (some K), ς I J L, η L0], mpf K (S0.map feM) m0] (κ 3 .i64 I J L E0 :: rws .i64 d1 :: blk i 71 [pt j] :: δ j E G F z0 m1 k1 B0 A0 D0 C0 [row 31 3 (ς (ad M) 1 1) 1 (recV fcC ([(nm, false, Aa, ca_, xa)] : List Fc)), ν .u8 Aa xa, ν .u8 Ab xb]) (fl_Names_spec a i L0 K S0 m0 I J L ([] : List Int) ‹_› ‹_› (by exact Nat.le_trans (fs_len ‹_›) (by decide))) [0, 0] ?_)
  rintro _ _ ⟨N3, E1, A4, q4, rfl, rfl, D3, i4, R4, V4, b4⟩
  refine RunR.sl hU [] 4 9 [0, 1, 2, 6, 7, 8] [(0, .string nm), (1, ς Aa xa.length ca_), (2, ς Ab xb.length cb_), (6, η (decide ((E1 : Int) = 0))), (7, pt a), (8, ι C)] 4 ?_
  refine RunR.ev [0, 1, 2, 6, 7, 8] [(0, .string nm), (1, ς Aa xa.length ca_), (2, ς Ab xb.length cb_), (6, η (decide ((E1 : Int) = 0))), (7, pt a), (8, ι C)] ?_
  have K2 : ((E1 : Int) = 0) := by have h_ := nil_len (On1.bad ‹_› (by omega)).2; omega
  refine RunR.enveq [(0, .string nm), (1, ς Aa xa.length ca_), (2, ς Ab xb.length cb_), (6, η true), (7, pt a), (8, ι C)] (by rw [decide_eq_true K2]; try rfl) ?_
  refine RunR.nn ?_
  refine RunC.ret ?_
  refine kseq_r ?_
  refine kret_r [η true] [] [] ⟨rfl, trivial⟩ (by kernel_rfl) rfl ⟨rfl, rfl⟩
 refine RunC.ks ?_
 refine RunC.seq ?_
 refine RunC.sr ?_
 refine RunR.sl hU [] 2 2 [0, 1, 2, 6, 7, 8, 60] [(0, .string nm), (1, ς Aa xa.length ca_), (2, ς Ab xb.length cb_), (6, η false), (7, pt a), (8, ι C), (60, η (!decide (C = 0)))] 2 ?_
 refine RunR.nn ?_
 refine RunC.condn (C = 0) (by kernel_rfl) (fun b3 => ?_) (fun b3 => ?_)
 ·refine RunC.sr ?_
  refine RunR.sl hU [] 3 3 [0, 1, 2, 6, 7, 63] [(0, .string nm), (1, ς Aa xa.length ca_), (2, ς Ab xb.length cb_), (6, η false), (7, pt a), (63, η (decide (C = 2)))] 3 ?_
  refine RunR.ev [0, 1, 2, 6, 7, 63] [(0, .string nm), (1, ς Aa xa.length ca_), (2, ς Ab xb.length cb_), (6, η false), (7, pt a), (63, η (decide (C = 2)))] ?_
  have L2 : (C = 2) := by exact (On1.no ‹_› (by omega) ‹_›).1
  refine RunR.enveq [(0, .string nm), (1, ς Aa xa.length ca_), (2, ς Ab xb.length cb_), (6, η false), (7, pt a), (63, η true)] (by rw [decide_eq_true L2]; try rfl) ?_
  refine RunR.sl hU [] 5 8 [0, 1, 2, 6, 7] [(0, .string nm), (1, ς Aa xa.length ca_), (2, ς Ab xb.length cb_), (6, η (decide ((xa.length : Int) > 25600))), (7, pt a)] 5 ?_
  refine RunR.ev [0, 1, 2, 6, 7] [(0, .string nm), (1, ς Aa xa.length ca_), (2, ς Ab xb.length cb_), (6, η (decide ((xa.length : Int) > 25600))), (7, pt a)] ?_
  have A2 : ((xa.length : Int) > 25600) := by have h_ := (On1.no ‹_› (by omega) ‹_›).2; omega
  refine RunR.enveq [(0, .string nm), (1, ς Aa xa.length ca_), (2, ς Ab xb.length cb_), (6, η true), (7, pt a)] (by rw [decide_eq_true A2]; try rfl) ?_
  refine RunR.nn ?_
  refine RunC.ret ?_
  refine kseq_r ?_
  refine kret_r [η true] [] [] ⟨rfl, trivial⟩ (by kernel_rfl) rfl ⟨rfl, rfl⟩
 refine RunC.ksr ?_
 refine RunR.sl hU [] 2 2 [0, 1, 2, 6, 7, 69, 70] [(0, .string nm), (1, ς Aa xa.length ca_), (2, ς Ab xb.length cb_), (6, η false), (7, pt a), (69, pt a), (70, .string nm)] 2 ?_
 refine RunR.st (some 71) (.call { callee := .value (.func 9), args := #[.tmp 69, .tmp 70], argTypes := #[24, 9] }) (Step.cn 9 [pt a, .string nm] (blk a 51 [pt i, .map (some K), ς I J L, η L0] :: mpf K (S0.map feM) m0 :: κ 3 .i64 I J L E0 :: rws .i64 d1 :: blk i 71 [pt j] :: δ j E G F z0 m1 k1 B0 A0 D0 C0 []) [row 31 3 (ς (ad M) 1 1) 1 (recV fcC ([(nm, false, Aa, ca_, xa)] : List Fc)), ν .u8 Aa xa, ν .u8 Ab xb] (fl_Read_spec a i L0 K S0 m0 d1 I J L E0 j E G F z0 m1 k1 B0 A0 D0 C0 nm ‹_› ‹_› ‹_› (by exact febl_n (good_febl (FS.good ‹_›)) (by omega)) ‹_› (by omega) (fun h => c2 (by exact h)) ‹_› (by exact good_bnd (FS.good ‹_›)) Y1 ‹_› ‹_› (fun h => M0 (by exact h)) ‹_› ‹_› ‹_› (by omega) ‹_› ‹_› (fun h => Z1 (by exact h))) [0, 0, 0, 0, 0, 0, 0, 0, 0] ?_)
 rintro _ _ ⟨f, t, H, s, d, A, rfl, rfl, p2, O1, g2, Q4, l4⟩
 have r1 : Tells (κ 5 .u8 f H t s) (f) (nums .u8 d) := by rw [g2]; exact tells_take_nums (tells_row _ _ _ _ _ _) _
 (have j3 := one_rd (On1.yes ‹_› ‹_›) ‹_› p2)
 refine RunR.sl hU [] 5 8 [0, 1, 2, 6, 7, 9, 10] [(0, .string nm), (1, ς Aa xa.length ca_), (2, ς Ab xb.length cb_), (6, η false), (7, pt a), (9, ς f d.length d.length), (10, ι A)] 5 ?_
 refine RunR.nx ?_
 refine RunR.sl hU [] 4 4 [0, 1, 2, 6, 7, 9, 10, 74, 77] [(0, .string nm), (1, ς Aa xa.length ca_), (2, ς Ab xb.length cb_), (6, η false), (7, pt a), (9, ς f d.length d.length), (10, ι A), (74, pt a), (77, .agg #[.string nm, ς Ab xb.length cb_, η false])] 4 ?_
 refine RunR.st (some 78) (.buildSlice 32 1 #[(0, .tmp 77)]) (Step.lit_31 hU 31 48 (.agg #[.string ⟨#[]⟩, ς0, η false]) (.string nm) (ς Ab xb.length cb_) (η false) (by kernel_rfl) (by kernel_rfl) (by kernel_rfl) (by kernel_rfl) (fun B => ?_))
 refine RunR.turn ((row 31 3 (ς (ad B) 1 1) 1 (recV fcC ([(nm, false, Ab, cb_, xb)] : List Fc)) :: κ 5 .u8 f H t s :: blk a 51 [pt i, .map (some K), ς I J L, η L0] :: mpf K (S0.map feM) m0 :: κ 3 .i64 I J L E0 :: rws .i64 d1 :: blk i 71 [pt j] :: δ j E G F z0 m1 k1 B0 A0 D0 C0 [row 31 3 (ς (ad M) 1 1) 1 (recV fcC ([(nm, false, Aa, ca_, xa)] : List Fc)), ν .u8 Aa xa, ν .u8 Ab xb])) (fun _ _ w hs => hs) ?_
 refine RunR.st (some 79) (.call { callee := .value (.func 7), args := #[.tmp 74, .tmp 78], argTypes := #[24, 32] }) (Step.cl 7 [pt a, ς (ad B) 1 1] (blk a 51 [pt i, .map (some K), ς I J L, η L0] :: mpf K (S0.map feM) m0 :: κ 3 .i64 I J L E0 :: rws .i64 d1 :: blk i 71 [pt j] :: δ j E G F z0 m1 k1 B0 A0 D0 C0 []) [vw (ad B) (recV fcC ([(nm, false, Ab, cb_, xb)] : List Fc)), vws (rowsL .u8 (fcR ([(nm, false, Ab, cb_, xb)] : List Fc)))] [row 31 3 (ς (ad B) 1 1) 1 (recV fcC ([(nm, false, Ab, cb_, xb)] : List Fc)), κ 5 .u8 f H t s, row 31 3 (ς (ad M) 1 1) 1 (recV fcC ([(nm, false, Aa, ca_, xa)] : List Fc)), ν .u8 Aa xa, ν .u8 Ab xb] (fl_Commit_spec a i L0 K S0 m0 d1 I J L E0 j E G F z0 m1 k1 B0 A0 D0 C0 (ad B) 1 1 ([(nm, false, Ab, cb_, xb)] : List Fc) ‹_› ‹_› ‹_› (by exact good_k (FS.good ‹_›) (by omega)) ‹_› (by omega) (by omega) (fun h => c2 (by exact h)) ‹_› (by exact good_bnd (FS.good ‹_›)) Y1 ‹_› ‹_› (fun h => M0 (by exact h)) ‹_› ‹_› ‹_› (by omega) ‹_› ‹_› (fun h => Z1 (by exact h)) ‹_› (by rfl) (by omega) (by exact RowsOK.cons ‹_› (by omega) (by omega) (RowsOK.nil _)) (by exact Nat.le_trans (fs_len ‹_›) (by decide))) [2, 2, 2, 2, 2, 2, 2, 2, 2] ((((Lend.nil _).rows0 .u8).rows1 4 (ν .u8 Ab xb) Ab cb_ xb (by kernel_rfl) (tells_vw _ _)).tells 0 (row 31 3 (ς (ad B) 1 1) 1 (recV fcC ([(nm, false, Ab, cb_, xb)] : List Fc))) (ad B) (recV fcC ([(nm, false, Ab, cb_, xb)] : List Fc)) (by kernel_rfl) (tells_row _ _ _ _ _ _)) ?_)
 rintro _ _ ⟨g, l, j0, P, i0, m, n, o, R, l0, c0, k0, h0, T, S, Z, O, rfl, rfl, x2, O3, F4, u4, k4, J4, g4, x1, W4, H3, A1, Z4, c4, G4, p4, P3, B1, r4⟩
 have x0 := cm_calm x2 ‹_› ‹_› ‹_› ‹_› ‹_›; obtain ⟨l3, s3, k3, u0, t0⟩ := x0; first | (have x0 := on1 ‹_› ‹_› ‹_› u0 t0; have J1 := x0.fs; clear t0 u0) | (have x0 := on2 (On1.yes ‹_› ‹_›) (by omega) u0 t0; have J1 := x0.fs; clear t0 u0) | (obtain ⟨x0, J1, I3⟩ := on3 ‹_› (by omega) u0 t0; clear t0 u0)
 refine RunR.sl hU [] 1 7 [0, 1, 2, 6, 7, 9, 10, 11] [(0, .string nm), (1, ς Aa xa.length ca_), (2, ς Ab xb.length cb_), (6, η false), (7, pt a), (9, ς f d.length d.length), (10, ι A), (11, ι g)] 1 ?_
 refine RunR.nx ?_
 refine RunR.sl hU [] 2 2 [0, 1, 2, 6, 7, 9, 10, 11, 81, 82] [(0, .string nm), (1, ς Aa xa.length ca_), (2, ς Ab xb.length cb_), (6, η false), (7, pt a), (9, ς f d.length d.length), (10, ι A), (11, ι g), (81, pt a), (82, .string nm)] 2 ?_
 refine RunR.st (some 83) (.call { callee := .value (.func 9), args := #[.tmp 81, .tmp 82], argTypes := #[24, 9] }) (Step.cn 9 [pt a, .string nm] (blk a 51 [pt i, .map (some l), ς m n o, η l0] :: mpf l (j0.map feM) P :: κ 3 .i64 m n o R :: rws .i64 i0 :: blk i 71 [pt j] :: δ j E G F c0 k0 h0 T S Z O []) [row 31 3 (ς (ad B) 1 1) 1 (recV fcC ([(nm, false, Ab, cb_, xb)] : List Fc)), κ 5 .u8 f H t s, row 31 3 (ς (ad M) 1 1) 1 (recV fcC ([(nm, false, Aa, ca_, xa)] : List Fc)), ν .u8 Aa xa, ν .u8 Ab xb] (fl_Read_spec a i l0 l j0 P i0 m n o R j E G F c0 k0 h0 T S Z O nm ‹_› ‹_› ‹_› (by exact febl_n (good_febl (FS.good ‹_›)) (by omega)) ‹_› (by omega) (fun h => x1 (by exact h)) ‹_› (by exact good_bnd (FS.good ‹_›)) A1 ‹_› ‹_› (fun h => M0 (by exact h)) ‹_› ‹_› ‹_› (by omega) ‹_› ‹_› (fun h => B1 (by exact h))) [0, 0, 0, 0, 0, 0, 0, 0, 0] ?_)
 rintro _ _ ⟨e, z, e0, y, c, k, rfl, rfl, u2, S1, j2, R3, Y3⟩
 have u1 : Tells (κ 5 .u8 e e0 z y) (e) (nums .u8 c) := by rw [j2]; exact tells_take_nums (tells_row _ _ _ _ _ _) _
 (have m3 := one_rd2 ‹_› ‹_› u2)
 refine RunR.sl hU [] 5 8 [0, 1, 2, 6, 7, 9, 10, 11, 12, 13] [(0, .string nm), (1, ς Aa xa.length ca_), (2, ς Ab xb.length cb_), (6, η false), (7, pt a), (9, ς f d.length d.length), (10, ι A), (11, ι g), (12, ς e c.length c.length), (13, ι k)] 5 ?_
 refine RunR.nx ?_
 refine RunR.sl hU [] 2 2 [0, 1, 6, 7, 9, 10, 11, 12, 13, 14] [(0, .string nm), (1, ς Aa xa.length ca_), (6, η false), (7, pt a), (9, ς f d.length d.length), (10, ι A), (11, ι g), (12, ς e c.length c.length), (13, ι k), (14, ς Ab xb.length cb_)] 2 ?_
 refine RunR.nn ?_
 refine RunC.seq ?_
 refine RunC.sr ?_
 refine RunR.sl hU [] 2 2 [0, 1, 6, 7, 9, 10, 11, 12, 13, 14, 88] [(0, .string nm), (1, ς Aa xa.length ca_), (6, η false), (7, pt a), (9, ς f d.length d.length), (10, ι A), (11, ι g), (12, ς e c.length c.length), (13, ι k), (14, ς Ab xb.length cb_), (88, η (!decide (g = 0)))] 2 ?_
 refine RunR.nn ?_
 refine RunC.condn (g = 0) (by kernel_rfl) (fun X1 => ?_) (fun X1 => ?_)
 ·refine RunC.region ?_
  refine RunR.sl hU [] 2 2 [0, 1, 6, 7, 9, 10, 11, 12, 13, 14] [(0, .string nm), (1, ς Aa xa.length ca_), (6, η false), (7, pt a), (9, ς f d.length d.length), (10, ι A), (11, ι g), (12, ς e c.length c.length), (13, ι k), (14, ς Aa xa.length ca_)] 2 ?_
  refine RunR.nx ?_
  refine RunR.sl hU [] 3 3 [0, 1, 6, 7, 9, 10, 11, 12, 13, 14, 90, 92] [(0, .string nm), (1, ς Aa xa.length ca_), (6, η false), (7, pt a), (9, ς f d.length d.length), (10, ι A), (11, ι g), (12, ς e c.length c.length), (13, ι k), (14, ς Aa xa.length ca_), (90, pt a), (92, .agg #[.string nm, ς0, η true])] 3 ?_
  refine RunR.turn ((ν .u8 none ([] : List Int) :: κ 5 .u8 e e0 z y :: blk a 51 [pt i, .map (some l), ς m n o, η l0] :: mpf l (j0.map feM) P :: κ 3 .i64 m n o R :: rws .i64 i0 :: blk i 71 [pt j] :: δ j E G F c0 k0 h0 T S Z O [row 31 3 (ς (ad B) 1 1) 1 (recV fcC ([(nm, false, Ab, cb_, xb)] : List Fc)), κ 5 .u8 f H t s, row 31 3 (ς (ad M) 1 1) 1 (recV fcC ([(nm, false, Aa, ca_, xa)] : List Fc)), ν .u8 Aa xa, ν .u8 Ab xb])) (fun _ _ w hs => hs.nil_vw none) ?_
  refine RunR.st (some 93) (.buildSlice 32 1 #[(0, .tmp 92)]) (Step.lit_31 hU 31 48 (.agg #[.string ⟨#[]⟩, ς0, η false]) (.string nm) (ς0) (η true) (by kernel_rfl) (by kernel_rfl) (by kernel_rfl) (by kernel_rfl) (fun o0 => ?_))
  refine RunR.turn ((row 31 3 (ς (ad o0) 1 1) 1 (recV fcC ([(nm, true, none, 0, ([] : List Int))] : List Fc)) :: ν .u8 none ([] : List Int) :: κ 5 .u8 e e0 z y :: blk a 51 [pt i, .map (some l), ς m n o, η l0] :: mpf l (j0.map feM) P :: κ 3 .i64 m n o R :: rws .i64 i0 :: blk i 71 [pt j] :: δ j E G F c0 k0 h0 T S Z O [row 31 3 (ς (ad B) 1 1) 1 (recV fcC ([(nm, false, Ab, cb_, xb)] : List Fc)), κ 5 .u8 f H t s, row 31 3 (ς (ad M) 1 1) 1 (recV fcC ([(nm, false, Aa, ca_, xa)] : List Fc)), ν .u8 Aa xa, ν .u8 Ab xb])) (fun _ _ w hs => hs) ?_
  refine RunR.st (some 94) (.call { callee := .value (.func 7), args := #[.tmp 90, .tmp 93], argTypes := #[24, 32] }) (Step.cl 7 [pt a, ς (ad o0) 1 1] (blk a 51 [pt i, .map (some l), ς m n o, η l0] :: mpf l (j0.map feM) P :: κ 3 .i64 m n o R :: rws .i64 i0 :: blk i 71 [pt j] :: δ j E G F c0 k0 h0 T S Z O []) [vw (ad o0) (recV fcC ([(nm, true, none, 0, ([] : List Int))] : List Fc)), vws (rowsL .u8 (fcR ([(nm, true, none, 0, ([] : List Int))] : List Fc)))] [row 31 3 (ς (ad o0) 1 1) 1 (recV fcC ([(nm, true, none, 0, ([] : List Int))] : List Fc)), ν .u8 none ([] : List Int), κ 5 .u8 e e0 z y, row 31 3 (ς (ad B) 1 1) 1 (recV fcC ([(nm, false, Ab, cb_, xb)] : List Fc)), κ 5 .u8 f H t s, row 31 3 (ς (ad M) 1 1) 1 (recV fcC ([(nm, false, Aa, ca_, xa)] : List Fc)), ν .u8 Aa xa, ν .u8 Ab xb] (fl_Commit_spec a i l0 l j0 P i0 m n o R j E G F c0 k0 h0 T S Z O (ad o0) 1 1 ([(nm, true, none, 0, ([] : List Int))] : List Fc) ‹_› ‹_› ‹_› (by exact good_k (FS.good ‹_›) (by omega)) ‹_› (by omega) (by omega) (fun h => x1 (by exact h)) ‹_› (by exact good_bnd (FS.good ‹_›)) A1 ‹_› ‹_› (fun h => M0 (by exact h)) ‹_› ‹_› ‹_› (by omega) ‹_› ‹_› (fun h => B1 (by exact h)) ‹_› (by rfl) (by omega) (by exact RowsOK.cons (by exact In.nil _) (by simp) (by simp) (RowsOK.nil _)) (by exact Nat.le_trans (fs_len ‹_›) (by decide))) [3, 3, 3, 3, 3, 3, 3, 3, 3] ((((Lend.nil _).rows0 .u8).rows1 1 (ν .u8 none ([] : List Int)) none 0 ([] : List Int) (by kernel_rfl) (tells_vw _ _)).tells 0 (row 31 3 (ς (ad o0) 1 1) 1 (recV fcC ([(nm, true, none, 0, ([] : List Int))] : List Fc))) (ad o0) (recV fcC ([(nm, true, none, 0, ([] : List Int))] : List Fc)) (by kernel_rfl) (tells_row _ _ _ _ _ _)) ?_)
  rintro _ _ ⟨u, Q, h1, H0, i1, Y, b0, a0, f0, V0, N0, l1, a1, G0, J0, P0, T0, rfl, rfl, G2, d5, N4, Z3, z3, w3, y3, W1, t4, a5, D2, b5, W3, K3, S3, f4, C2, Q3⟩
  have v0 := cm_calm G2 ‹_› ‹_› ‹_› ‹_› ‹_›; obtain ⟨n3, t3, r3, q0, p0⟩ := v0; first | (have v0 := on1 ‹_› ‹_› ‹_› q0 p0; have G1 := v0.fs; clear p0 q0) | (have v0 := on2 (On1.yes ‹_› ‹_›) (by omega) q0 p0; have G1 := v0.fs; clear p0 q0) | (obtain ⟨v0, G1, d4⟩ := on3 ‹_› (by omega) q0 p0; clear p0 q0)
  refine RunR.sl hU [] 1 6 [0, 1, 6, 7, 9, 10, 11, 12, 13, 14, 15] [(0, .string nm), (1, ς Aa xa.length ca_), (6, η false), (7, pt a), (9, ς f d.length d.length), (10, ι A), (11, ι g), (12, ς e c.length c.length), (13, ι k), (14, ς Aa xa.length ca_), (15, ι u)] 1 ?_
  refine RunR.nx ?_
  refine RunR.sl hU [] 2 2 [1, 6, 7, 9, 10, 11, 12, 13, 14, 15, 96, 97] [(1, ς Aa xa.length ca_), (6, η false), (7, pt a), (9, ς f d.length d.length), (10, ι A), (11, ι g), (12, ς e c.length c.length), (13, ι k), (14, ς Aa xa.length ca_), (15, ι u), (96, pt a), (97, .string nm)] 2 ?_
  refine RunR.st (some 98) (.call { callee := .value (.func 9), args := #[.tmp 96, .tmp 97], argTypes := #[24, 9] }) (Step.cn 9 [pt a, .string nm] (blk a 51 [pt i, .map (some Q), ς Y b0 a0, η V0] :: mpf Q (h1.map feM) H0 :: κ 3 .i64 Y b0 a0 f0 :: rws .i64 i1 :: blk i 71 [pt j] :: δ j E G F N0 l1 a1 G0 J0 P0 T0 []) [row 31 3 (ς (ad o0) 1 1) 1 (recV fcC ([(nm, true, none, 0, ([] : List Int))] : List Fc)), ν .u8 none ([] : List Int), κ 5 .u8 e e0 z y, row 31 3 (ς (ad B) 1 1) 1 (recV fcC ([(nm, false, Ab, cb_, xb)] : List Fc)), κ 5 .u8 f H t s, row 31 3 (ς (ad M) 1 1) 1 (recV fcC ([(nm, false, Aa, ca_, xa)] : List Fc)), ν .u8 Aa xa, ν .u8 Ab xb] (fl_Read_spec a i V0 Q h1 H0 i1 Y b0 a0 f0 j E G F N0 l1 a1 G0 J0 P0 T0 nm ‹_› ‹_› ‹_› (by exact febl_n (good_febl (FS.good ‹_›)) (by omega)) ‹_› (by omega) (fun h => W1 (by exact h)) ‹_› (by exact good_bnd (FS.good ‹_›)) D2 ‹_› ‹_› (fun h => M0 (by exact h)) ‹_› ‹_› ‹_› (by omega) ‹_› ‹_› (fun h => C2 (by exact h))) [0, 0, 0, 0, 0, 0, 0, 0, 0] ?_)
  rintro _ _ ⟨e1, o1, I1, p1, l2, q, rfl, rfl, J2, P4, B2, O4, J3⟩
  have c3 : Tells (κ 5 .u8 e1 I1 o1 p1) (e1) (nums .u8 l2) := by rw [B2]; exact tells_take_nums (tells_row _ _ _ _ _ _) _
  (have p3 := one_rd3 ‹_› J2)
  refine RunR.sl hU [] 5 8 [1, 6, 7, 9, 10, 11, 12, 13, 14, 15, 17] [(1, ς Aa xa.length ca_), (6, η false), (7, pt a), (9, ς f d.length d.length), (10, ι A), (11, ι g), (12, ς e c.length c.length), (13, ι k), (14, ς Aa xa.length ca_), (15, ι u), (17, ι q)] 5 ?_
  refine RunR.nx ?_
  refine RunR.sl hU [] 3 3 [1, 6, 7, 9, 11, 12, 13, 14, 15, 17, 103] [(1, ς Aa xa.length ca_), (6, η false), (7, pt a), (9, ς f d.length d.length), (11, ι g), (12, ς e c.length c.length), (13, ι k), (14, ς Aa xa.length ca_), (15, ι u), (17, ι q), (103, η (decide (A = 0)))] 3 ?_
  refine RunR.ev [1, 6, 7, 9, 11, 12, 13, 14, 15, 17, 103] [(1, ς Aa xa.length ca_), (6, η false), (7, pt a), (9, ς f d.length d.length), (11, ι g), (12, ς e c.length c.length), (13, ι k), (14, ς Aa xa.length ca_), (15, ι u), (17, ι q), (103, η (decide (A = 0)))] ?_
  have o2 : (A = 0) := by exact And.left ‹_›
  refine RunR.enveq [(1, ς Aa xa.length ca_), (6, η false), (7, pt a), (9, ς f d.length d.length), (11, ι g), (12, ς e c.length c.length), (13, ι k), (14, ς Aa xa.length ca_), (15, ι u), (17, ι q), (103, η true)] (by rw [decide_eq_true o2]; try rfl) ?_
  refine RunR.sl hU [] 2 5 [6, 7, 11, 12, 13, 14, 15, 17, 103, 104, 105] [(6, η false), (7, pt a), (11, ι g), (12, ς e c.length c.length), (13, ι k), (14, ς Aa xa.length ca_), (15, ι u), (17, ι q), (103, η true), (104, ς f d.length d.length), (105, ς Aa xa.length ca_)] 2 ?_
  refine RunR.st (some 106) (.call { callee := .value (.func 10), args := #[.tmp 104, .tmp 105], argTypes := #[22, 22] }) (Step.cl 10 [ς f d.length d.length, ς Aa xa.length ca_] [] [ν .u8 f d, ν .u8 Aa xa] (κ 5 .u8 e1 I1 o1 p1 :: blk a 51 [pt i, .map (some Q), ς Y b0 a0, η V0] :: mpf Q (h1.map feM) H0 :: κ 3 .i64 Y b0 a0 f0 :: rws .i64 i1 :: blk i 71 [pt j] :: δ j E G F N0 l1 a1 G0 J0 P0 T0 [row 31 3 (ς (ad o0) 1 1) 1 (recV fcC ([(nm, true, none, 0, ([] : List Int))] : List Fc)), ν .u8 none ([] : List Int), κ 5 .u8 e e0 z y, row 31 3 (ς (ad B) 1 1) 1 (recV fcC ([(nm, false, Ab, cb_, xb)] : List Fc)), κ 5 .u8 f H t s, row 31 3 (ς (ad M) 1 1) 1 (recV fcC ([(nm, false, Aa, ca_, xa)] : List Fc)), ν .u8 Aa xa, ν .u8 Ab xb]) (r_Equal_spec f d.length d Aa ca_ xa d.length xa.length O1 (by omega) hIxa ‹_› (by rfl) (by rfl)) [] (((Lend.nil _).tells 16 (ν .u8 Aa xa) Aa (nums .u8 xa) (by kernel_rfl) (tells_vw _ _)).tells 14 (κ 5 .u8 f H t s) f (nums .u8 d) (by kernel_rfl) (r1)) ?_)
  rintro _ _ ⟨rfl, rfl⟩
  refine RunR.sl hU [] 2 8 [6, 7, 11, 12, 13, 14, 15, 17, 108] [(6, η false), (7, pt a), (11, ι g), (12, ς e c.length c.length), (13, ι k), (14, ς Aa xa.length ca_), (15, ι u), (17, ι q), (108, η (decide (d = xa)))] 2 ?_
  refine RunR.ev [6, 7, 11, 12, 13, 14, 15, 17, 108] [(6, η false), (7, pt a), (11, ι g), (12, ς e c.length c.length), (13, ι k), (14, ς Aa xa.length ca_), (15, ι u), (17, ι q), (108, η (decide (d = xa)))] ?_
  have N2 : (d = xa) := by exact And.right ‹_›
  refine RunR.enveq [(6, η false), (7, pt a), (11, ι g), (12, ς e c.length c.length), (13, ι k), (14, ς Aa xa.length ca_), (15, ι u), (17, ι q), (108, η true)] (by rw [decide_eq_true N2]; try rfl) ?_
  refine RunR.sl hU [] 4 12 [6, 7, 11, 12, 14, 15, 17, 112] [(6, η false), (7, pt a), (11, ι g), (12, ς e c.length c.length), (14, ς Aa xa.length ca_), (15, ι u), (17, ι q), (112, η (decide (k = 0)))] 4 ?_
  refine RunR.ev [6, 7, 11, 12, 14, 15, 17, 112] [(6, η false), (7, pt a), (11, ι g), (12, ς e c.length c.length), (14, ς Aa xa.length ca_), (15, ι u), (17, ι q), (112, η (decide (k = 0)))] ?_
  have i2 : (k = 0) := by exact And.left ‹_›
  refine RunR.enveq [(6, η false), (7, pt a), (11, ι g), (12, ς e c.length c.length), (14, ς Aa xa.length ca_), (15, ι u), (17, ι q), (112, η true)] (by rw [decide_eq_true i2]; try rfl) ?_
  refine RunR.sl hU [] 2 14 [6, 7, 11, 15, 17, 112, 113, 114] [(6, η false), (7, pt a), (11, ι g), (15, ι u), (17, ι q), (112, η true), (113, ς e c.length c.length), (114, ς Aa xa.length ca_)] 2 ?_
  refine RunR.st (some 115) (.call { callee := .value (.func 10), args := #[.tmp 113, .tmp 114], argTypes := #[22, 22] }) (Step.cl 10 [ς e c.length c.length, ς Aa xa.length ca_] [] [ν .u8 e c, ν .u8 Aa xa] (κ 5 .u8 e1 I1 o1 p1 :: blk a 51 [pt i, .map (some Q), ς Y b0 a0, η V0] :: mpf Q (h1.map feM) H0 :: κ 3 .i64 Y b0 a0 f0 :: rws .i64 i1 :: blk i 71 [pt j] :: δ j E G F N0 l1 a1 G0 J0 P0 T0 [row 31 3 (ς (ad o0) 1 1) 1 (recV fcC ([(nm, true, none, 0, ([] : List Int))] : List Fc)), ν .u8 none ([] : List Int), κ 5 .u8 e e0 z y, row 31 3 (ς (ad B) 1 1) 1 (recV fcC ([(nm, false, Ab, cb_, xb)] : List Fc)), κ 5 .u8 f H t s, row 31 3 (ς (ad M) 1 1) 1 (recV fcC ([(nm, false, Aa, ca_, xa)] : List Fc)), ν .u8 Aa xa, ν .u8 Ab xb]) (r_Equal_spec e c.length c Aa ca_ xa c.length xa.length S1 (by omega) hIxa ‹_› (by rfl) (by rfl)) [] (((Lend.nil _).tells 16 (ν .u8 Aa xa) Aa (nums .u8 xa) (by kernel_rfl) (tells_vw _ _)).tells 12 (κ 5 .u8 e e0 z y) e (nums .u8 c) (by kernel_rfl) (u1)) ?_)
  rintro _ _ ⟨rfl, rfl⟩
  refine RunR.sl hU [] 2 17 [6, 7, 11, 15, 17, 117] [(6, η false), (7, pt a), (11, ι g), (15, ι u), (17, ι q), (117, η (decide (c = xa)))] 2 ?_
  refine RunR.ev [6, 7, 11, 15, 17, 117] [(6, η false), (7, pt a), (11, ι g), (15, ι u), (17, ι q), (117, η (decide (c = xa)))] ?_
  have H2 : (c = xa) := by exact rd2_x ‹_› ‹_›
  refine RunR.enveq [(6, η false), (7, pt a), (11, ι g), (15, ι u), (17, ι q), (117, η true)] (by rw [decide_eq_true H2]; try rfl) ?_
  refine RunR.sl hU [] 3 20 [6, 7, 11, 15, 17, 117, 120] [(6, η false), (7, pt a), (11, ι g), (15, ι u), (17, ι q), (117, η true), (120, η (decide (g = 0)))] 3 ?_
  refine RunR.ev [6, 7, 11, 15, 17, 117, 120] [(6, η false), (7, pt a), (11, ι g), (15, ι u), (17, ι q), (117, η true), (120, η (decide (g = 0)))] ?_
  have P2 : ¬ (g = 0) := by exact X1
  refine RunR.enveq [(6, η false), (7, pt a), (11, ι g), (15, ι u), (17, ι q), (117, η true), (120, η false)] (by rw [decide_eq_false P2]; try rfl) ?_
  refine RunR.sl hU [] 5 25 [6, 7, 15, 17, 125] [(6, η false), (7, pt a), (15, ι u), (17, ι q), (125, η (decide (g = 2)))] 5 ?_
  refine RunR.ev [6, 7, 15, 17, 125] [(6, η false), (7, pt a), (15, ι u), (17, ι q), (125, η (decide (g = 2)))] ?_
  have v2 : (g = 2) := by exact (On2.no ‹_› ‹_›).1
  refine RunR.enveq [(6, η false), (7, pt a), (15, ι u), (17, ι q), (125, η true)] (by rw [decide_eq_true v2]; try rfl) ?_
  refine RunR.sl hU [] 4 29 [6, 7, 17, 129] [(6, η false), (7, pt a), (17, ι q), (129, η (decide (u = 0)))] 4 ?_
  refine RunR.ev [6, 7, 17, 129] [(6, η false), (7, pt a), (17, ι q), (129, η (decide (u = 0)))] ?_
  have h2 : (u = 0) := by assumption
  refine RunR.enveq [(6, η false), (7, pt a), (17, ι q), (129, η true)] (by rw [decide_eq_true h2]; try rfl) ?_
  refine RunR.sl hU [] 4 33 [6, 7, 133] [(6, η false), (7, pt a), (133, η (decide (q = 4)))] 4 ?_
  refine RunR.ev [6, 7, 133] [(6, η false), (7, pt a), (133, η (decide (q = 4)))] ?_
  have q2 : (q = 4) := by assumption
  refine RunR.enveq [(6, η false), (7, pt a), (133, η true)] (by rw [decide_eq_true q2]; try rfl) ?_
  refine RunR.sl hU [] 1 34 [6, 133, 134] [(6, η false), (133, η true), (134, pt a)] 1 ?_
  refine RunR.st (some 135) (.call { callee := .value (.func 11), args := #[.tmp 134], argTypes := #[24] }) (Step.cn 11 [pt a] [blk a 51 [pt i, .map (some Q), ς Y b0 a0, η V0], κ 3 .i64 Y b0 a0 f0] (κ 5 .u8 e1 I1 o1 p1 :: mpf Q (h1.map feM) H0 :: rws .i64 i1 :: blk i 71 [pt j] :: δ j E G F N0 l1 a1 G0 J0 P0 T0 [row 31 3 (ς (ad o0) 1 1) 1 (recV fcC ([(nm, true, none, 0, ([] : List Int))] : List Fc)), ν .u8 none ([] : List Int), κ 5 .u8 e e0 z y, row 31 3 (ς (ad B) 1 1) 1 (recV fcC ([(nm, false, Ab, cb_, xb)] : List Fc)), κ 5 .u8 f H t s, row 31 3 (ς (ad M) 1 1) 1 (recV fcC ([(nm, false, Aa, ca_, xa)] : List Fc)), ν .u8 Aa xa, ν .u8 Ab xb]) (fl_Free_spec a i (.map (some Q)) V0 Y b0 a0 f0 ‹_› (fun h => W1 (by exact h)) ‹_› (by omega)) [1, 2] ?_)
  rintro _ _ ⟨rfl, rfl, L3⟩
  refine RunR.sl hU [] 3 38 [6] [(6, η (decide (((frL f0).length : Int) = 100)))] 3 ?_
  refine RunR.ev [6] [(6, η (decide (((frL f0).length : Int) = 100)))] ?_
  have E2 : (((frL f0).length : Int) = 100) := by exact one_free ‹_› ‹_› ‹_›
  refine RunR.enveq [(6, η true)] (by rw [decide_eq_true E2]; try rfl) ?_
  refine RunR.nn ?_
  refine RunC.ret ?_
  refine kret_r [η true] [] [] ⟨rfl, trivial⟩ (by kernel_rfl) rfl ⟨rfl, rfl⟩
 refine RunC.ksr ?_
 refine RunR.sl hU [] 3 3 [0, 1, 6, 7, 9, 10, 11, 12, 13, 14, 90, 92] [(0, .string nm), (1, ς Aa xa.length ca_), (6, η false), (7, pt a), (9, ς f d.length d.length), (10, ι A), (11, ι g), (12, ς e c.length c.length), (13, ι k), (14, ς Ab xb.length cb_), (90, pt a), (92, .agg #[.string nm, ς0, η true])] 3 ?_
 refine RunR.turn ((ν .u8 none ([] : List Int) :: κ 5 .u8 e e0 z y :: blk a 51 [pt i, .map (some l), ς m n o, η l0] :: mpf l (j0.map feM) P :: κ 3 .i64 m n o R :: rws .i64 i0 :: blk i 71 [pt j] :: δ j E G F c0 k0 h0 T S Z O [row 31 3 (ς (ad B) 1 1) 1 (recV fcC ([(nm, false, Ab, cb_, xb)] : List Fc)), κ 5 .u8 f H t s, row 31 3 (ς (ad M) 1 1) 1 (recV fcC ([(nm, false, Aa, ca_, xa)] : List Fc)), ν .u8 Aa xa, ν .u8 Ab xb])) (fun _ _ w hs => hs.nil_vw none) ?_
 refine RunR.st (some 93) (.buildSlice 32 1 #[(0, .tmp 92)]) (Step.lit_31 hU 31 48 (.agg #[.string ⟨#[]⟩, ς0, η false]) (.string nm) (ς0) (η true) (by kernel_rfl) (by kernel_rfl) (by kernel_rfl) (by kernel_rfl) (fun n0 => ?_))
 refine RunR.turn ((row 31 3 (ς (ad n0) 1 1) 1 (recV fcC ([(nm, true, none, 0, ([] : List Int))] : List Fc)) :: ν .u8 none ([] : List Int) :: κ 5 .u8 e e0 z y :: blk a 51 [pt i, .map (some l), ς m n o, η l0] :: mpf l (j0.map feM) P :: κ 3 .i64 m n o R :: rws .i64 i0 :: blk i 71 [pt j] :: δ j E G F c0 k0 h0 T S Z O [row 31 3 (ς (ad B) 1 1) 1 (recV fcC ([(nm, false, Ab, cb_, xb)] : List Fc)), κ 5 .u8 f H t s, row 31 3 (ς (ad M) 1 1) 1 (recV fcC ([(nm, false, Aa, ca_, xa)] : List Fc)), ν .u8 Aa xa, ν .u8 Ab xb])) (fun _ _ w hs => hs) ?_
 refine RunR.st (some 94) (.call { callee := .value (.func 7), args := #[.tmp 90, .tmp 93], argTypes := #[24, 32] }) (Step.cl 7 [pt a, ς (ad n0) 1 1] (blk a 51 [pt i, .map (some l), ς m n o, η l0] :: mpf l (j0.map feM) P :: κ 3 .i64 m n o R :: rws .i64 i0 :: blk i 71 [pt j] :: δ j E G F c0 k0 h0 T S Z O []) [vw (ad n0) (recV fcC ([(nm, true, none, 0, ([] : List Int))] : List Fc)), vws (rowsL .u8 (fcR ([(nm, true, none, 0, ([] : List Int))] : List Fc)))] [row 31 3 (ς (ad n0) 1 1) 1 (recV fcC ([(nm, true, none, 0, ([] : List Int))] : List Fc)), ν .u8 none ([] : List Int), κ 5 .u8 e e0 z y, row 31 3 (ς (ad B) 1 1) 1 (recV fcC ([(nm, false, Ab, cb_, xb)] : List Fc)), κ 5 .u8 f H t s, row 31 3 (ς (ad M) 1 1) 1 (recV fcC ([(nm, false, Aa, ca_, xa)] : List Fc)), ν .u8 Aa xa, ν .u8 Ab xb] (fl_Commit_spec a i l0 l j0 P i0 m n o R j E G F c0 k0 h0 T S Z O (ad n0) 1 1 ([(nm, true, none, 0, ([] : List Int))] : List Fc) ‹_› ‹_› ‹_› (by exact good_k (FS.good ‹_›) (by omega)) ‹_› (by omega) (by omega) (fun h => x1 (by exact h)) ‹_› (by exact good_bnd (FS.good ‹_›)) A1 ‹_› ‹_› (fun h => M0 (by exact h)) ‹_› ‹_› ‹_› (by omega) ‹_› ‹_› (fun h => B1 (by exact h)) ‹_› (by rfl) (by omega) (by exact RowsOK.cons (by exact In.nil _) (by simp) (by simp) (RowsOK.nil _)) (by exact Nat.le_trans (fs_len ‹_›) (by decide))) [3, 3, 3, 3, 3, 3, 3, 3, 3] ((((Lend.nil _).rows0 .u8).rows1 1 (ν .u8 none ([] : List Int)) none 0 ([] : List Int) (by kernel_rfl) (tells_vw _ _)).tells 0 (row 31 3 (ς (ad n0) 1 1) 1 (recV fcC ([(nm, true, none, 0, ([] : List Int))] : List Fc))) (ad n0) (recV fcC ([(nm, true, none, 0, ([] : List Int))] : List Fc)) (by kernel_rfl) (tells_row _ _ _ _ _ _)) ?_)
 rintro _ _ ⟨x, N, c1, Q0, j1, X, d0, V, g0, X0, K0, b1, g1, I0, O0, F0, R0, rfl, rfl, k2, M3, H4, o4, D4, c5, X4, Q1, a4, y4, S2, T3, B4, T4, X3, M4, s2, j4⟩
 have y0 := cm_calm k2 ‹_› ‹_› ‹_› ‹_› ‹_›; obtain ⟨o3, q3, i3, s0, r0⟩ := y0; first | (have y0 := on1 ‹_› ‹_› ‹_› s0 r0; have H1 := y0.fs; clear r0 s0) | (have y0 := on2 (On1.yes ‹_› ‹_›) (by omega) s0 r0; have H1 := y0.fs; clear r0 s0) | (obtain ⟨y0, H1, v4⟩ := on3 ‹_› (by omega) s0 r0; clear r0 s0)
 refine RunR.sl hU [] 1 6 [0, 1, 6, 7, 9, 10, 11, 12, 13, 14, 15] [(0, .string nm), (1, ς Aa xa.length ca_), (6, η false), (7, pt a), (9, ς f d.length d.length), (10, ι A), (11, ι g), (12, ς e c.length c.length), (13, ι k), (14, ς Ab xb.length cb_), (15, ι x)] 1 ?_
 refine RunR.nx ?_
 refine RunR.sl hU [] 2 2 [1, 6, 7, 9, 10, 11, 12, 13, 14, 15, 96, 97] [(1, ς Aa xa.length ca_), (6, η false), (7, pt a), (9, ς f d.length d.length), (10, ι A), (11, ι g), (12, ς e c.length c.length), (13, ι k), (14, ς Ab xb.length cb_), (15, ι x), (96, pt a), (97, .string nm)] 2 ?_
 refine RunR.st (some 98) (.call { callee := .value (.func 9), args := #[.tmp 96, .tmp 97], argTypes := #[24, 9] }) (Step.cn 9 [pt a, .string nm] (blk a 51 [pt i, .map (some N), ς X d0 V, η X0] :: mpf N (c1.map feM) Q0 :: κ 3 .i64 X d0 V g0 :: rws .i64 j1 :: blk i 71 [pt j] :: δ j E G F K0 b1 g1 I0 O0 F0 R0 []) [row 31 3 (ς (ad n0) 1 1) 1 (recV fcC ([(nm, true, none, 0, ([] : List Int))] : List Fc)), ν .u8 none ([] : List Int), κ 5 .u8 e e0 z y, row 31 3 (ς (ad B) 1 1) 1 (recV fcC ([(nm, false, Ab, cb_, xb)] : List Fc)), κ 5 .u8 f H t s, row 31 3 (ς (ad M) 1 1) 1 (recV fcC ([(nm, false, Aa, ca_, xa)] : List Fc)), ν .u8 Aa xa, ν .u8 Ab xb] (fl_Read_spec a i X0 N c1 Q0 j1 X d0 V g0 j E G F K0 b1 g1 I0 O0 F0 R0 nm ‹_› ‹_› ‹_› (by exact febl_n (good_febl (FS.good ‹_›)) (by omega)) ‹_› (by omega) (fun h => Q1 (by exact h)) ‹_› (by exact good_bnd (FS.good ‹_›)) S2 ‹_› ‹_› (fun h => M0 (by exact h)) ‹_› ‹_› ‹_› (by omega) ‹_› ‹_› (fun h => s2 (by exact h))) [0, 0, 0, 0, 0, 0, 0, 0, 0] ?_)
 rintro _ _ ⟨f1, n1, K1, q1, I2, v, rfl, rfl, z2, C3, d2, E4, K4⟩
 have T2 : Tells (κ 5 .u8 f1 K1 n1 q1) (f1) (nums .u8 I2) := by rw [d2]; exact tells_take_nums (tells_row _ _ _ _ _ _) _
 (have u3 := one_rd3 ‹_› z2)
 refine RunR.sl hU [] 5 8 [1, 6, 7, 9, 10, 11, 12, 13, 14, 15, 17] [(1, ς Aa xa.length ca_), (6, η false), (7, pt a), (9, ς f d.length d.length), (10, ι A), (11, ι g), (12, ς e c.length c.length), (13, ι k), (14, ς Ab xb.length cb_), (15, ι x), (17, ι v)] 5 ?_
 refine RunR.nx ?_
 refine RunR.sl hU [] 3 3 [1, 6, 7, 9, 11, 12, 13, 14, 15, 17, 103] [(1, ς Aa xa.length ca_), (6, η false), (7, pt a), (9, ς f d.length d.length), (11, ι g), (12, ς e c.length c.length), (13, ι k), (14, ς Ab xb.length cb_), (15, ι x), (17, ι v), (103, η (decide (A = 0)))] 3 ?_
 refine RunR.ev [1, 6, 7, 9, 11, 12, 13, 14, 15, 17, 103] [(1, ς Aa xa.length ca_), (6, η false), (7, pt a), (9, ς f d.length d.length), (11, ι g), (12, ς e c.length c.length), (13, ι k), (14, ς Ab xb.length cb_), (15, ι x), (17, ι v), (103, η (decide (A = 0)))] ?_
 have F2 : (A = 0) := by exact And.left ‹_›
 refine RunR.enveq [(1, ς Aa xa.length ca_), (6, η false), (7, pt a), (9, ς f d.length d.length), (11, ι g), (12, ς e c.length c.length), (13, ι k), (14, ς Ab xb.length cb_), (15, ι x), (17, ι v), (103, η true)] (by rw [decide_eq_true F2]; try rfl) ?_
 refine RunR.sl hU [] 2 5 [6, 7, 11, 12, 13, 14, 15, 17, 103, 104, 105] [(6, η false), (7, pt a), (11, ι g), (12, ς e c.length c.length), (13, ι k), (14, ς Ab xb.length cb_), (15, ι x), (17, ι v), (103, η true), (104, ς f d.length d.length), (105, ς Aa xa.length ca_)] 2 ?_
 refine RunR.st (some 106) (.call { callee := .value (.func 10), args := #[.tmp 104, .tmp 105], argTypes := #[22, 22] }) (Step.cl 10 [ς f d.length d.length, ς Aa xa.length ca_] [] [ν .u8 f d, ν .u8 Aa xa] (κ 5 .u8 f1 K1 n1 q1 :: blk a 51 [pt i, .map (some N), ς X d0 V, η X0] :: mpf N (c1.map feM) Q0 :: κ 3 .i64 X d0 V g0 :: rws .i64 j1 :: blk i 71 [pt j] :: δ j E G F K0 b1 g1 I0 O0 F0 R0 [row 31 3 (ς (ad n0) 1 1) 1 (recV fcC ([(nm, true, none, 0, ([] : List Int))] : List Fc)), ν .u8 none ([] : List Int), κ 5 .u8 e e0 z y, row 31 3 (ς (ad B) 1 1) 1 (recV fcC ([(nm, false, Ab, cb_, xb)] : List Fc)), κ 5 .u8 f H t s, row 31 3 (ς (ad M) 1 1) 1 (recV fcC ([(nm, false, Aa, ca_, xa)] : List Fc)), ν .u8 Aa xa, ν .u8 Ab xb]) (r_Equal_spec f d.length d Aa ca_ xa d.length xa.length O1 (by omega) hIxa ‹_› (by rfl) (by rfl)) [] (((Lend.nil _).tells 16 (ν .u8 Aa xa) Aa (nums .u8 xa) (by kernel_rfl) (tells_vw _ _)).tells 14 (κ 5 .u8 f H t s) f (nums .u8 d) (by kernel_rfl) (r1)) ?_)
 rintro _ _ ⟨rfl, rfl⟩
 refine RunR.sl hU [] 2 8 [6, 7, 11, 12, 13, 14, 15, 17, 108] [(6, η false), (7, pt a), (11, ι g), (12, ς e c.length c.length), (13, ι k), (14, ς Ab xb.length cb_), (15, ι x), (17, ι v), (108, η (decide (d = xa)))] 2 ?_
 refine RunR.ev [6, 7, 11, 12, 13, 14, 15, 17, 108] [(6, η false), (7, pt a), (11, ι g), (12, ς e c.length c.length), (13, ι k), (14, ς Ab xb.length cb_), (15, ι x), (17, ι v), (108, η (decide (d = xa)))] ?_
 have n2 : (d = xa) := by exact And.right ‹_›
 refine RunR.enveq [(6, η false), (7, pt a), (11, ι g), (12, ς e c.length c.length), (13, ι k), (14, ς Ab xb.length cb_), (15, ι x), (17, ι v), (108, η true)] (by rw [decide_eq_true n2]; try rfl) ?_
 refine RunR.sl hU [] 4 12 [6, 7, 11, 12, 14, 15, 17, 112] [(6, η false), (7, pt a), (11, ι g), (12, ς e c.length c.length), (14, ς Ab xb.length cb_), (15, ι x), (17, ι v), (112, η (decide (k = 0)))] 4 ?_
 refine RunR.ev [6, 7, 11, 12, 14, 15, 17, 112] [(6, η false), (7, pt a), (11, ι g), (12, ς e c.length c.length), (14, ς Ab xb.length cb_), (15, ι x), (17, ι v), (112, η (decide (k = 0)))] ?_
 have y2 : (k = 0) := by exact And.left ‹_›
 refine RunR.enveq [(6, η false), (7, pt a), (11, ι g), (12, ς e c.length c.length), (14, ς Ab xb.length cb_), (15, ι x), (17, ι v), (112, η true)] (by rw [decide_eq_true y2]; try rfl) ?_
 refine RunR.sl hU [] 2 14 [6, 7, 11, 15, 17, 112, 113, 114] [(6, η false), (7, pt a), (11, ι g), (15, ι x), (17, ι v), (112, η true), (113, ς e c.length c.length), (114, ς Ab xb.length cb_)] 2 ?_
 refine RunR.st (some 115) (.call { callee := .value (.func 10), args := #[.tmp 113, .tmp 114], argTypes := #[22, 22] }) (Step.cl 10 [ς e c.length c.length, ς Ab xb.length cb_] [] [ν .u8 e c, ν .u8 Ab xb] (κ 5 .u8 f1 K1 n1 q1 :: blk a 51 [pt i, .map (some N), ς X d0 V, η X0] :: mpf N (c1.map feM) Q0 :: κ 3 .i64 X d0 V g0 :: rws .i64 j1 :: blk i 71 [pt j] :: δ j E G F K0 b1 g1 I0 O0 F0 R0 [row 31 3 (ς (ad n0) 1 1) 1 (recV fcC ([(nm, true, none, 0, ([] : List Int))] : List Fc)), ν .u8 none ([] : List Int), κ 5 .u8 e e0 z y, row 31 3 (ς (ad B) 1 1) 1 (recV fcC ([(nm, false, Ab, cb_, xb)] : List Fc)), κ 5 .u8 f H t s, row 31 3 (ς (ad M) 1 1) 1 (recV fcC ([(nm, false, Aa, ca_, xa)] : List Fc)), ν .u8 Aa xa, ν .u8 Ab xb]) (r_Equal_spec e c.length c Ab cb_ xb c.length xb.length S1 (by omega) hIxb ‹_› (by rfl) (by rfl)) [] (((Lend.nil _).tells 17 (ν .u8 Ab xb) Ab (nums .u8 xb) (by kernel_rfl) (tells_vw _ _)).tells 12 (κ 5 .u8 e e0 z y) e (nums .u8 c) (by kernel_rfl) (u1)) ?_)
 rintro _ _ ⟨rfl, rfl⟩
 refine RunR.sl hU [] 2 17 [6, 7, 11, 15, 17, 117] [(6, η false), (7, pt a), (11, ι g), (15, ι x), (17, ι v), (117, η (decide (c = xb)))] 2 ?_
 refine RunR.ev [6, 7, 11, 15, 17, 117] [(6, η false), (7, pt a), (11, ι g), (15, ι x), (17, ι v), (117, η (decide (c = xb)))] ?_
 have R2 : (c = xb) := by exact rd2_y ‹_› ‹_›
 refine RunR.enveq [(6, η false), (7, pt a), (11, ι g), (15, ι x), (17, ι v), (117, η true)] (by rw [decide_eq_true R2]; try rfl) ?_
 refine RunR.sl hU [] 3 20 [6, 7, 11, 15, 17, 117, 120] [(6, η false), (7, pt a), (11, ι g), (15, ι x), (17, ι v), (117, η true), (120, η (decide (g = 0)))] 3 ?_
 refine RunR.ev [6, 7, 11, 15, 17, 117, 120] [(6, η false), (7, pt a), (11, ι g), (15, ι x), (17, ι v), (117, η true), (120, η (decide (g = 0)))] ?_
 have m2 : (g = 0) := by exact X1
 refine RunR.enveq [(6, η false), (7, pt a), (11, ι g), (15, ι x), (17, ι v), (117, η true), (120, η true)] (by rw [decide_eq_true m2]; try rfl) ?_
 refine RunR.sl hU [] 9 29 [6, 7, 17, 129] [(6, η false), (7, pt a), (17, ι v), (129, η (decide (x = 0)))] 7 ?_
 refine RunR.ev [6, 7, 17, 129] [(6, η false), (7, pt a), (17, ι v), (129, η (decide (x = 0)))] ?_
 have r2 : (x = 0) := by assumption
 refine RunR.enveq [(6, η false), (7, pt a), (17, ι v), (129, η true)] (by rw [decide_eq_true r2]; try rfl) ?_
 refine RunR.sl hU [] 4 33 [6, 7, 133] [(6, η false), (7, pt a), (133, η (decide (v = 4)))] 4 ?_
 refine RunR.ev [6, 7, 133] [(6, η false), (7, pt a), (133, η (decide (v = 4)))] ?_
 have f2 : (v = 4) := by assumption
 refine RunR.enveq [(6, η false), (7, pt a), (133, η true)] (by rw [decide_eq_true f2]; try rfl) ?_
 refine RunR.sl hU [] 1 34 [6, 133, 134] [(6, η false), (133, η true), (134, pt a)] 1 ?_
 refine RunR.st (some 135) (.call { callee := .value (.func 11), args := #[.tmp 134], argTypes := #[24] }) (Step.cn 11 [pt a] [blk a 51 [pt i, .map (some N), ς X d0 V, η X0], κ 3 .i64 X d0 V g0] (κ 5 .u8 f1 K1 n1 q1 :: mpf N (c1.map feM) Q0 :: rws .i64 j1 :: blk i 71 [pt j] :: δ j E G F K0 b1 g1 I0 O0 F0 R0 [row 31 3 (ς (ad n0) 1 1) 1 (recV fcC ([(nm, true, none, 0, ([] : List Int))] : List Fc)), ν .u8 none ([] : List Int), κ 5 .u8 e e0 z y, row 31 3 (ς (ad B) 1 1) 1 (recV fcC ([(nm, false, Ab, cb_, xb)] : List Fc)), κ 5 .u8 f H t s, row 31 3 (ς (ad M) 1 1) 1 (recV fcC ([(nm, false, Aa, ca_, xa)] : List Fc)), ν .u8 Aa xa, ν .u8 Ab xb]) (fl_Free_spec a i (.map (some N)) X0 X d0 V g0 ‹_› (fun h => Q1 (by exact h)) ‹_› (by omega)) [1, 2] ?_)
 rintro _ _ ⟨rfl, rfl, w4⟩
 refine RunR.sl hU [] 3 38 [6] [(6, η (decide (((frL g0).length : Int) = 100)))] 3 ?_
 refine RunR.ev [6] [(6, η (decide (((frL g0).length : Int) = 100)))] ?_
 have e2 : (((frL g0).length : Int) = 100) := by exact one_free ‹_› ‹_› ‹_›
 refine RunR.enveq [(6, η true)] (by rw [decide_eq_true e2]; try rfl) ?_
 refine RunR.nn ?_
 refine RunC.ret ?_
 refine kret_r [η true] [] [] ⟨rfl, trivial⟩ (by kernel_rfl) rfl ⟨rfl, rfl⟩
end Go.Proofs.Ytlibhidhfbecbaa.LFileOne
