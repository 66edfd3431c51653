import Derived.Test.YtlibhidhfbecbaaOnePure
import Derived.Test.YtlibhidhfbecbaaProg
import Derived.Test.YtlibhidhfbecbaaY9
namespace Go.Proofs.Ytlibhidhfbecbaa.LFileOne
open Go Go.Proofs.Ytlibhidhfbecbaa.SL Go.Proofs.Ytlibhidhfbecbaa.SL.W Go.Proofs.Ytlibhidhfbecbaa.SL.D Go.Proofs.Ytlibhidhfbecbaa.SL.I Go.Proofs.Ytlibhidhfbecbaa.XT
set_option linter.unusedVariables false
set_option linter.unusedSimpArgs false
set_option maxRecDepth 100000
set_option maxHeartbeats 40000000
theorem lw_open_spec (d : Nat) (A : Option Addr) (n : Nat) (c : Nat) (ss : List Int) (Wa : Option Addr) (m : Nat) (wc : Nat) (ws : List Ch) (lf : Int) (dn : Bool) (hss : In .u8 ss) (hnl : ss.length = n) (hnc : n ≤ c) (hAs : 0 < n → Option.isSome A = true) (y0 : n % 256 = 0) (hnb : n ≤ 557056) (hml : ws.length = m) (hmb : m ≤ 500000) (hok : ChOK .u8 ws) (hwk : WOK n ws) (hWs : 0 < m → Option.isSome Wa = true) (hlf : 0 ≤ lf ∧ lf < 9223372036854775808) :
 CallsS Try.prog 5 [pt d] (δ d A n c ss Wa m wc ws lf dn []) (fun r D => (r = .pointer none ∧ D = [] ∧ (OpnBad n ss (dat ws) lf dn)) ∨ (∃ (fi : Nat) (wj : Nat) (mp : Nat) (Fs : List Fe) (fc : Nat) (G : List Ro) (NA : Option Addr) (nk : Nat) (nc : Nat) (ns : List Int) (q : List Int) (Wb : Option Addr) (J : Nat) (K : Nat) (l : List Ch) (v : Int) (E : Bool), r = pt fi ∧ D = (blk fi 51 [pt wj, .map (some mp), ς NA nk nc, η false] :: mpf mp (Fs.map feM) fc :: κ 3 .i64 NA nk nc ns :: rws .i64 G :: blk wj 71 [pt d] :: δ d A n c q Wb J K l v E []) ∧ ((0, q, dat l, v, E) = phs n ss (dat ws) lf dn (openL (logged n ss (dat ws)))) ∧ (OpenOK q (dat l) n (fcon Fs)) ∧ (ns = nextL q (dat l) (datN n).toNat) ∧ (1 ≤ datN n) ∧ (FeOK Fs) ∧ (FMOK Fs fc) ∧ (FeIn Fs G) ∧ (ns.length = nk) ∧ ((nk : Int) = datN n) ∧ (0 < nk → Option.isSome NA = true) ∧ (nk ≤ nc) ∧ (In .u8 q) ∧ (q.length = n) ∧ (l.length = J) ∧ (J ≤ m + 100) ∧ (ChOK .u8 l) ∧ (WOK n l) ∧ (0 < J → Option.isSome Wb = true) ∧ (0 ≤ v ∧ v < 9223372036854775808))) := by
 refine CallsS.enter hU Try.f5 _ [.tmp 2] 26 Try.func5 rfl (by decide) rfl rfl (by kernel_rfl) fun w0 W => ?_
 refine RunC.sr ?_
 refine RunR.sl hU [] 1 1 [0, 2] [(0, pt d), (2, .pointer none)] 1 ?_
 refine RunR.nx ?_
 refine RunR.sl hU [] 1 1 [2, 8] [(2, .pointer none), (8, pt d)] 1 ?_
 refine RunR.st (some 9) (.call { callee := .value (.func 12), args := #[.tmp 8], argTypes := #[26] }) (Step.cn 12 [pt d] (δ d A n c ss Wa m wc ws lf dn []) [] (wl_Open_spec d A n c ss Wa m wc ws lf dn hss ‹_› ‹_› (fun h => hAs (by exact h)) ‹_› ‹_› ‹_› (by omega) ‹_› ‹_› (fun h => hWs (by exact h)) ‹_›) [0, 0, 0, 0] ?_)
 rintro _ _ (⟨rfl, rfl, z0⟩ | ⟨e2, V, x0, v0, l0, r0, Y, X, rfl, rfl, F, M, L, b0, o0, n0, m0, p0, h0, Q, s0⟩ | ⟨a, g, p, o, j, k, f, i, rfl, rfl, H, y, u0, e0, q0, c0, j0, B, T, S⟩)
 ·refine RunR.sl hU [] 5 7 [2, 3, 4] [(2, .pointer none), (3, .pointer none), (4, ι 1)] 5 ?_
  refine RunR.nn ?_
  refine RunC.seq ?_
  refine RunC.sr ?_
  refine RunR.sl hU [] 6 6 [2, 3, 17] [(2, .pointer none), (3, .pointer none), (17, η true)] 4 ?_
  refine RunR.nn ?_
  refine RunC.cond (b := true) (by kernel_rfl) (fun _ => ?_) (fun h => by cases h)
  refine RunC.sr ?_
  refine RunR.sl hU [] 1 1 [2, 3] [(2, .pointer none), (3, .pointer none)] 1 ?_
  refine RunR.nn ?_
  refine RunC.ret ?_
  refine kseq_r ?_
  refine kret_r [.pointer none] [] [] ⟨rfl, trivial⟩ (by kernel_rfl) rfl (.inl ⟨rfl, rfl, (by exact .inl (by omega))⟩)
 ·refine RunR.sl hU [] 5 7 [2, 3, 4] [(2, .pointer none), (3, .pointer none), (4, ι e2)] 5 ?_
  refine RunR.nn ?_
  refine RunC.seq ?_
  refine RunC.sr ?_
  refine RunR.sl hU [] 6 6 [2, 3, 17] [(2, .pointer none), (3, .pointer none), (17, η true)] 4 ?_
  refine RunR.nn ?_
  refine RunC.cond (b := true) (by kernel_rfl) (fun _ => ?_) (fun h => by cases h)
  refine RunC.sr ?_
  refine RunR.sl hU [] 1 1 [2, 3] [(2, .pointer none), (3, .pointer none)] 1 ?_
  refine RunR.nn ?_
  refine RunC.ret ?_
  refine kseq_r ?_
  refine kret_r [.pointer none] [] [] ⟨rfl, trivial⟩ (by kernel_rfl) rfl (.inl ⟨rfl, rfl, (by exact .inr (.inl ⟨_, _, _, _, _, F, by assumption⟩))⟩)
 refine RunR.sl hU [] 5 7 [2, 3, 4] [(2, .pointer none), (3, pt a), (4, ι 0)] 5 ?_
 refine RunR.nn ?_
 refine RunC.seq ?_
 refine RunC.sr ?_
 refine RunR.sl hU [] 6 6 [2, 3, 17] [(2, .pointer none), (3, pt a), (17, η false)] 6 ?_
 refine RunR.nn ?_
 refine RunC.cond (b := false) (by kernel_rfl) (fun h => by cases h) (fun _ => ?_)
 refine RunC.ksr ?_
 refine RunR.sl hU [] 1 1 [2, 19] [(2, .pointer none), (19, pt a)] 1 ?_
 refine RunR.st (some 20) (.call { callee := .value (.func 13), args := #[.tmp 19], argTypes := #[40] }) (Step.cn 13 [pt a] (blk a 71 [pt d] :: δ d A n c g p o j k f i []) [] (fl_Open_spec a d A n c g p o j k f i y ‹_› ‹_› (fun h => hAs (by exact h)) ‹_› ‹_› ‹_› (by omega) ‹_› ‹_› (fun h => B (by exact h)) ‹_›) [0, 0, 0, 0, 0] ?_)
 rintro _ _ (⟨rfl, rfl, Z⟩ | ⟨rfl, rfl, f0, N⟩ | ⟨e, t, w, z, I, u, s, x, rfl, rfl, k0, i0, d0, g0, O, R, P, t0, C, a0⟩)
 ·refine RunR.sl hU [] 5 7 [2, 5, 6] [(2, .pointer none), (5, .pointer none), (6, ι 1)] 5 ?_
  refine RunR.nn ?_
  refine RunC.seq ?_
  refine RunC.sr ?_
  refine RunR.sl hU [] 2 2 [2, 5, 24] [(2, .pointer none), (5, .pointer none), (24, η true)] 2 ?_
  refine RunR.nn ?_
  refine RunC.cond (b := true) (by kernel_rfl) (fun _ => ?_) (fun h => by cases h)
  refine RunC.sr ?_
  refine RunR.sl hU [] 1 1 [2, 5] [(2, .pointer none), (5, .pointer none)] 1 ?_
  refine RunR.nn ?_
  refine RunC.ret ?_
  refine kseq_r ?_
  refine kret_r [.pointer none] [] [] ⟨rfl, trivial⟩ (by kernel_rfl) rfl (.inl ⟨rfl, rfl, (by exact .inr (.inr (.inl ‹_›)))⟩)
 ·refine RunR.sl hU [] 5 7 [2, 5, 6] [(2, .pointer none), (5, .pointer none), (6, ι 8)] 5 ?_
  refine RunR.nn ?_
  refine RunC.seq ?_
  refine RunC.sr ?_
  refine RunR.sl hU [] 2 2 [2, 5, 24] [(2, .pointer none), (5, .pointer none), (24, η true)] 2 ?_
  refine RunR.nn ?_
  refine RunC.cond (b := true) (by kernel_rfl) (fun _ => ?_) (fun h => by cases h)
  refine RunC.sr ?_
  refine RunR.sl hU [] 1 1 [2, 5] [(2, .pointer none), (5, .pointer none)] 1 ?_
  refine RunR.nn ?_
  refine RunC.ret ?_
  refine kseq_r ?_
  refine kret_r [.pointer none] [] [] ⟨rfl, trivial⟩ (by kernel_rfl) rfl (.inl ⟨rfl, rfl, (by exact .inr (.inr (.inr ⟨_, _, _, _, H, by assumption⟩)))⟩)
 refine RunR.sl hU [] 5 7 [2, 5, 6] [(2, .pointer none), (5, pt e), (6, ι 0)] 5 ?_
 refine RunR.nn ?_
 refine RunC.seq ?_
 refine RunC.sr ?_
 refine RunR.sl hU [] 2 2 [2, 5, 24] [(2, .pointer none), (5, pt e), (24, η false)] 2 ?_
 refine RunR.nn ?_
 refine RunC.cond (b := false) (by kernel_rfl) (fun h => by cases h) (fun _ => ?_)
 refine RunC.ksr ?_
 refine RunR.sl hU [] 2 2 [2] [(2, pt e)] 2 ?_
 refine RunR.nn ?_
 refine RunC.ret ?_
 refine kret_r [pt e] [0, 0, 0, 0, 0, 0, 0, 0, 0] (blk e 51 [pt a, .map (some t), ς u ((datN n).toNat) s, η false] :: mpf t (w.map feM) z :: κ 3 .i64 u ((datN n).toNat) s x :: rws .i64 I :: blk a 71 [pt d] :: δ d A n c g p o j k f i []) ⟨rfl, trivial⟩ (by kernel_rfl) rfl (.inr ⟨e, a, t, w, z, I, u, ((datN n).toNat), s, x, g, p, o, j, k, f, i, rfl, rfl, ‹_›, ‹_›, ‹_›, ‹_›, ‹_›, ‹_›, ‹_›, ‹_›, (by omega), (fun h => C (by exact h)), ‹_›, y, ‹_›, ‹_›, (by omega), ‹_›, ‹_›, (fun h => B (by exact h)), ‹_›⟩)
theorem lw_awake_spec  :
 CallsS Try.prog 4 [] [] (fun r D => r = η true ∧ D = []) := by
 refine CallsS.enter hU Try.f4 _ [.tmp 0] 58 Try.func4 rfl (by decide) rfl rfl (by kernel_rfl) fun w0 W => ?_
 refine RunC.sr ?_
 refine RunR.sl hU [] 1 1 [0] [(0, η false)] 1 ?_
 refine RunR.nx ?_
 refine RunR.st (some 8) (.call { callee := .value (.func 6), args := #[.const (ι 80)], argTypes := #[3] }) (Step.cn 6 [ι 80] [] [] (d_New_spec 80 (by (refine ⟨?_, ?_⟩ <;> omega))) [] ?_)
 rintro _ _ ⟨l, p, q, y, k1, rfl, rfl, x1, K2, L2, C0, r2, u2, t2, g1⟩
 have I1 := dn_bd g1
 refine RunR.st (some 9) (.call { callee := .value (.func 5), args := #[.tmp 8], argTypes := #[26] }) (Step.cn 5 [pt l] (δ l p q y k1 none 0 0 ([] : List Ch) 0 false []) [] (lw_open_spec l p q y k1 none 0 0 ([] : List Ch) 0 false x1 ‹_› ‹_› (fun h => C0 (by exact h)) ‹_› ‹_› (by rfl) (by omega) (by exact ChOK.nil _) (by exact WOK.nil _) (fun h => absurd h (by decide)) (by omega)) [0, 0, 0, 0] ?_)
 rintro _ _ (⟨rfl, rfl, M0⟩ | ⟨a, e, F, x0, s0, K0, H, P, O, u0, S, y0, t0, T, a0, V, b0, rfl, rfl, l1, o2, h2, G2, C2, l2, n2, z2, v2, f1, E2, j1, j2, d2, m2, s2, q2, h1, g2⟩)
 ·first | (have P0 := lw_new M0 ‹_› rfl D.calm0 ‹_› ‹_› ‹_› ‹_› ‹_› ‹_› ‹_›; obtain ⟨T1, z1, C1, G1⟩ := P0) | skip
  exact (lw_bad M0 ‹_› rfl D.calm0 (by unfold datN; split <;> omega)).elim
 first | (have b1 := lw_new l1 ‹_› rfl D.calm0 ‹_› ‹_› ‹_› ‹_› ‹_› ‹_› ‹_›; obtain ⟨a2, L1, F1, u1⟩ := b1) | skip
 refine RunR.sl hU [] 1 3 [0, 1] [(0, η false), (1, pt a)] 1 ?_
 refine RunR.nn ?_
 refine RunC.seq ?_
 refine RunC.sr ?_
 refine RunR.sl hU [] 2 2 [0, 1, 11] [(0, η false), (1, pt a), (11, η false)] 2 ?_
 refine RunR.nn ?_
 refine RunC.cond (b := false) (by kernel_rfl) (fun h => by cases h) (fun _ => ?_)
 refine RunC.ksr ?_
 refine RunR.sl hU [] 1 1 [0, 1, 12] [(0, η false), (1, pt a), (12, pt a)] 1 ?_
 refine RunR.st (some 13) (.buildSlice 22 1 #[(0, .const (.int .u8 120))]) (Step.lit_nums hU 5 1 .u8 (.int .u8 0) ([120] : List Int) rfl rfl (by kernel_rfl) rfl rfl (by kernel_rfl) (fun g => ?_))
 have F2 : (([120] : List Int)).length = 1 := rfl
 refine RunR.st (some 14) (.convert 22 22 (.tmp 13)) (Step.mark_bytes hU 5 0 1 1 g ([120] : List Int) rfl rfl (by kernel_rfl) (by kernel_rfl) (by decide) (by kernel_rfl) ?_)
 refine RunR.sl hU [] 2 5 [0, 1, 12, 15, 16] [(0, η false), (1, pt a), (12, pt a), (15, .agg #[.string ⟨#[97]⟩, ς (ad g) 1 1, η false]), (16, .agg #[.string ⟨#[98]⟩, ς0, η false])] 2 ?_
 refine RunR.turn ((ν .u8 none ([] : List Int) :: ν .u8 (ad g) ([120] : List Int) :: blk a 51 [pt e, .map (some F), ς H P O, η false] :: mpf F (x0.map feM) s0 :: κ 3 .i64 H P O u0 :: rws .i64 K0 :: blk e 71 [pt l] :: δ l p q y S y0 t0 T a0 V b0 [])) (fun _ _ w hs => hs.nil_vw none) ?_
 refine RunR.st (some 17) (.buildSlice 32 2 #[(0, .tmp 15), (1, .tmp 16)]) (Step.lit_32 hU 31 48 (.agg #[.string ⟨#[]⟩, ς0, η false]) (.string ⟨#[97]⟩) (ς (ad g) 1 1) (η false) (.string ⟨#[98]⟩) (ς0) (η false) (by kernel_rfl) (by kernel_rfl) (by kernel_rfl) (by kernel_rfl) (by kernel_rfl) (fun A => ?_))
 refine RunR.turn ((row 31 3 (ς (ad A) 2 2) 2 (recV fcC ([(⟨#[97]⟩, false, some ⟨g, 0, none⟩, 1, ([120] : List Int)), (⟨#[98]⟩, false, none, 0, ([] : List Int))] : List Fc)) :: ν .u8 none ([] : List Int) :: ν .u8 (ad g) ([120] : List Int) :: blk a 51 [pt e, .map (some F), ς H P O, η false] :: mpf F (x0.map feM) s0 :: κ 3 .i64 H P O u0 :: rws .i64 K0 :: blk e 71 [pt l] :: δ l p q y S y0 t0 T a0 V b0 [])) (fun _ _ w hs => hs) ?_
 refine RunR.st (some 18) (.call { callee := .value (.func 7), args := #[.tmp 12, .tmp 17], argTypes := #[24, 32] }) (Step.cl 7 [pt a, ς (ad A) 2 2] (blk a 51 [pt e, .map (some F), ς H P O, η false] :: mpf F (x0.map feM) s0 :: κ 3 .i64 H P O u0 :: rws .i64 K0 :: blk e 71 [pt l] :: δ l p q y S y0 t0 T a0 V b0 []) [vw (ad A) (recV fcC ([(⟨#[97]⟩, false, some ⟨g, 0, none⟩, 1, ([120] : List Int)), (⟨#[98]⟩, false, none, 0, ([] : List Int))] : List Fc)), vws (rowsL .u8 (fcR ([(⟨#[97]⟩, false, some ⟨g, 0, none⟩, 1, ([120] : List Int)), (⟨#[98]⟩, false, none, 0, ([] : List Int))] : List Fc)))] [row 31 3 (ς (ad A) 2 2) 2 (recV fcC ([(⟨#[97]⟩, false, some ⟨g, 0, none⟩, 1, ([120] : List Int)), (⟨#[98]⟩, false, none, 0, ([] : List Int))] : List Fc)), ν .u8 none ([] : List Int), ν .u8 (ad g) ([120] : List Int)] (fl_Commit_spec a e false F x0 s0 K0 H P O u0 l p q y S y0 t0 T a0 V b0 (ad A) 2 2 ([(⟨#[97]⟩, false, some ⟨g, 0, none⟩, 1, ([120] : List Int)), (⟨#[98]⟩, false, none, 0, ([] : List Int))] : List Fc) ‹_› ‹_› ‹_› (by exact good_k (FS.good ‹_›) (by omega)) ‹_› ‹_› (by omega) (fun h => f1 (by exact h)) ‹_› (by exact good_bnd (FS.good ‹_›)) j1 ‹_› ‹_› (fun h => C0 (by exact h)) ‹_› ‹_› ‹_› (by omega) ‹_› ‹_› (fun h => h1 (by exact h)) ‹_› (by rfl) (by omega) (by exact RowsOK.cons (by exact In.cons ⟨by omega, by omega⟩ (In.nil _)) (by omega) (by omega) (RowsOK.cons (by exact In.nil _) (by simp) (by simp) (RowsOK.nil _))) (by exact Nat.le_trans (fs_len ‹_›) (by decide))) [3, 3, 3, 3, 3, 3, 3, 3, 3] (((((Lend.nil _).rows0 .u8).rows1 1 (ν .u8 none ([] : List Int)) none 0 ([] : List Int) (by kernel_rfl) (tells_vw _ _)).rows1 2 (ν .u8 (ad g) ([120] : List Int)) (ad g) 1 ([120] : List Int) (by kernel_rfl) (tells_vw _ _)).tells 0 (row 31 3 (ς (ad A) 2 2) 2 (recV fcC ([(⟨#[97]⟩, false, some ⟨g, 0, none⟩, 1, ([120] : List Int)), (⟨#[98]⟩, false, none, 0, ([] : List Int))] : List Fc))) (ad A) (recV fcC ([(⟨#[97]⟩, false, some ⟨g, 0, none⟩, 1, ([120] : List Int)), (⟨#[98]⟩, false, none, 0, ([] : List Int))] : List Fc)) (by kernel_rfl) (tells_row _ _ _ _ _ _)) ?_)
 rintro _ _ ⟨R, J, D0, r0, A0, M, L, N, j0, z0, k0, J0, H0, p0, q0, h0, i0, rfl, rfl, i1, H2, i2, I2, y2, p2, x2, o1, w2, B2, m1, e2, J2, A2, f2, D2, n1, k2⟩
 have o0 := cm_calm i1 ‹_› ‹_› ‹_› (by rfl) ‹_›; obtain ⟨O1, H1, D1, c0, Z⟩ := o0; first | (obtain ⟨o0, m0⟩ := aw1 ‹_› ‹_› ‹_› c0 Z; have d1 := m0.fs; clear Z c0) | (obtain ⟨o0, m0⟩ := aw2 ‹_› c0 Z; have d1 := m0.fs; clear Z c0)
 refine RunR.sl hU [] 1 8 [0, 1, 2] [(0, η false), (1, pt a), (2, ι R)] 1 ?_
 refine RunR.nx ?_
 refine RunR.sl hU [] 3 3 [0, 1, 2, 19, 20, 21] [(0, η false), (1, pt a), (2, ι R), (19, pt a), (20, .agg #[.string ⟨#[97]⟩, ς0, η true]), (21, .agg #[.string ⟨#[97]⟩, ς0, η true])] 3 ?_
 refine RunR.st (some 22) (.buildSlice 32 2 #[(0, .tmp 20), (1, .tmp 21)]) (Step.lit_32 hU 31 48 (.agg #[.string ⟨#[]⟩, ς0, η false]) (.string ⟨#[97]⟩) (ς0) (η true) (.string ⟨#[97]⟩) (ς0) (η true) (by kernel_rfl) (by kernel_rfl) (by kernel_rfl) (by kernel_rfl) (by kernel_rfl) (fun Q => ?_))
 refine RunR.turn ((row 31 3 (ς (ad Q) 2 2) 2 (recV fcC ([(⟨#[97]⟩, true, none, 0, ([] : List Int)), (⟨#[97]⟩, true, none, 0, ([] : List Int))] : List Fc)) :: blk a 51 [pt e, .map (some J), ς M L N, η z0] :: mpf J (D0.map feM) r0 :: κ 3 .i64 M L N j0 :: rws .i64 A0 :: blk e 71 [pt l] :: δ l p q y k0 J0 H0 p0 q0 h0 i0 [row 31 3 (ς (ad A) 2 2) 2 (recV fcC ([(⟨#[97]⟩, false, some ⟨g, 0, none⟩, 1, ([120] : List Int)), (⟨#[98]⟩, false, none, 0, ([] : List Int))] : List Fc)), ν .u8 none ([] : List Int), ν .u8 (ad g) ([120] : List Int)])) (fun _ _ w hs => hs) ?_
 refine RunR.st (some 23) (.call { callee := .value (.func 7), args := #[.tmp 19, .tmp 22], argTypes := #[24, 32] }) (Step.cl 7 [pt a, ς (ad Q) 2 2] (blk a 51 [pt e, .map (some J), ς M L N, η z0] :: mpf J (D0.map feM) r0 :: κ 3 .i64 M L N j0 :: rws .i64 A0 :: blk e 71 [pt l] :: δ l p q y k0 J0 H0 p0 q0 h0 i0 []) [vw (ad Q) (recV fcC ([(⟨#[97]⟩, true, none, 0, ([] : List Int)), (⟨#[97]⟩, true, none, 0, ([] : List Int))] : List Fc)), vws (rowsL .u8 (fcR ([(⟨#[97]⟩, true, none, 0, ([] : List Int)), (⟨#[97]⟩, true, none, 0, ([] : List Int))] : List Fc)))] [row 31 3 (ς (ad Q) 2 2) 2 (recV fcC ([(⟨#[97]⟩, true, none, 0, ([] : List Int)), (⟨#[97]⟩, true, none, 0, ([] : List Int))] : List Fc)), row 31 3 (ς (ad A) 2 2) 2 (recV fcC ([(⟨#[97]⟩, false, some ⟨g, 0, none⟩, 1, ([120] : List Int)), (⟨#[98]⟩, false, none, 0, ([] : List Int))] : List Fc)), ν .u8 none ([] : List Int), ν .u8 (ad g) ([120] : List Int)] (fl_Commit_spec a e z0 J D0 r0 A0 M L N j0 l p q y k0 J0 H0 p0 q0 h0 i0 (ad Q) 2 2 ([(⟨#[97]⟩, true, none, 0, ([] : List Int)), (⟨#[97]⟩, true, none, 0, ([] : List Int))] : List Fc) ‹_› ‹_› ‹_› (by exact good_k (FS.good ‹_›) (by omega)) ‹_› (by omega) (by omega) (fun h => o1 (by exact h)) ‹_› (by exact good_bnd (FS.good ‹_›)) m1 ‹_› ‹_› (fun h => C0 (by exact h)) ‹_› ‹_› ‹_› (by omega) ‹_› ‹_› (fun h => n1 (by exact h)) ‹_› (by rfl) (by omega) (by exact RowsOK.cons (by exact In.nil _) (by simp) (by simp) (RowsOK.cons (by exact In.nil _) (by simp) (by simp) (RowsOK.nil _))) (by exact Nat.le_trans (fs_len ‹_›) (by decide))) [1, 1, 1, 1, 1, 1, 1, 1, 1] (((((Lend.nil _).rows0 .u8).rows1 2 (ν .u8 none ([] : List Int)) none 0 ([] : List Int) (by kernel_rfl) (tells_vw _ _)).rows1 2 (ν .u8 none ([] : List Int)) none 0 ([] : List Int) (by kernel_rfl) (tells_vw _ _)).tells 0 (row 31 3 (ς (ad Q) 2 2) 2 (recV fcC ([(⟨#[97]⟩, true, none, 0, ([] : List Int)), (⟨#[97]⟩, true, none, 0, ([] : List Int))] : List Fc))) (ad Q) (recV fcC ([(⟨#[97]⟩, true, none, 0, ([] : List Int)), (⟨#[97]⟩, true, none, 0, ([] : List Int))] : List Fc)) (by kernel_rfl) (tells_row _ _ _ _ _ _)) ?_)
 rintro _ _ ⟨G, m, g0, E, f0, n, j, k, i, z, s, K, I, t, x, u, v, rfl, rfl, Q0, A1, Z1, N1, V1, w1, Q1, l0, K1, S1, E0, v1, X1, J1, E1, R1, F0, P1⟩
 have d0 := cm_calm Q0 ‹_› ‹_› ‹_› ‹_› ‹_›; obtain ⟨q1, t1, s1, C, B⟩ := d0; first | (obtain ⟨d0, X⟩ := aw1 ‹_› ‹_› ‹_› C B; have S0 := X.fs; clear B C) | (obtain ⟨d0, X⟩ := aw2 ‹_› C B; have S0 := X.fs; clear B C)
 refine RunR.sl hU [] 1 6 [0, 1, 2, 3] [(0, η false), (1, pt a), (2, ι R), (3, ι G)] 1 ?_
 refine RunR.nx ?_
 refine RunR.sl hU [] 1 1 [0, 1, 2, 3, 25] [(0, η false), (1, pt a), (2, ι R), (3, ι G), (25, pt a)] 1 ?_
 refine RunR.st (some 26) (.call { callee := .value (.func 9), args := #[.tmp 25, .const (.string ⟨#[97]⟩)], argTypes := #[24, 9] }) (Step.cn 9 [pt a, .string ⟨#[97]⟩] (blk a 51 [pt e, .map (some m), ς n j k, η z] :: mpf m (g0.map feM) E :: κ 3 .i64 n j k i :: rws .i64 f0 :: blk e 71 [pt l] :: δ l p q y s K I t x u v []) [row 31 3 (ς (ad Q) 2 2) 2 (recV fcC ([(⟨#[97]⟩, true, none, 0, ([] : List Int)), (⟨#[97]⟩, true, none, 0, ([] : List Int))] : List Fc)), row 31 3 (ς (ad A) 2 2) 2 (recV fcC ([(⟨#[97]⟩, false, some ⟨g, 0, none⟩, 1, ([120] : List Int)), (⟨#[98]⟩, false, none, 0, ([] : List Int))] : List Fc)), ν .u8 none ([] : List Int), ν .u8 (ad g) ([120] : List Int)] (fl_Read_spec a e z m g0 E f0 n j k i l p q y s K I t x u v ⟨#[97]⟩ ‹_› ‹_› ‹_› (by exact febl_n (good_febl (FS.good ‹_›)) (by omega)) ‹_› (by omega) (fun h => l0 (by exact h)) ‹_› (by exact good_bnd (FS.good ‹_›)) E0 ‹_› ‹_› (fun h => C0 (by exact h)) ‹_› ‹_› ‹_› (by omega) ‹_› ‹_› (fun h => F0 (by exact h))) [0, 0, 0, 0, 0, 0, 0, 0, 0] ?_)
 rintro _ _ ⟨d, Y, v0, e0, c, o, rfl, rfl, R0, b2, Y0, B1, Y1⟩
 have G0 : Tells (κ 5 .u8 d v0 Y e0) (d) (nums .u8 c) := by rw [Y0]; exact tells_take_nums (tells_row _ _ _ _ _ _) _
 (have r1 := aw_a ‹_› ‹_› R0)
 refine RunR.sl hU [] 5 7 [0, 1, 2, 3, 4, 5] [(0, η false), (1, pt a), (2, ι R), (3, ι G), (4, ς d c.length c.length), (5, ι o)] 5 ?_
 refine RunR.nx ?_
 refine RunR.sl hU [] 1 1 [0, 1, 2, 3, 4, 5, 30] [(0, η false), (1, pt a), (2, ι R), (3, ι G), (4, ς d c.length c.length), (5, ι o), (30, pt a)] 1 ?_
 refine RunR.st (some 31) (.call { callee := .value (.func 9), args := #[.tmp 30, .const (.string ⟨#[99]⟩)], argTypes := #[24, 9] }) (Step.cn 9 [pt a, .string ⟨#[99]⟩] (blk a 51 [pt e, .map (some m), ς n j k, η z] :: mpf m (g0.map feM) E :: κ 3 .i64 n j k i :: rws .i64 f0 :: blk e 71 [pt l] :: δ l p q y s K I t x u v []) [κ 5 .u8 d v0 Y e0, row 31 3 (ς (ad Q) 2 2) 2 (recV fcC ([(⟨#[97]⟩, true, none, 0, ([] : List Int)), (⟨#[97]⟩, true, none, 0, ([] : List Int))] : List Fc)), row 31 3 (ς (ad A) 2 2) 2 (recV fcC ([(⟨#[97]⟩, false, some ⟨g, 0, none⟩, 1, ([120] : List Int)), (⟨#[98]⟩, false, none, 0, ([] : List Int))] : List Fc)), ν .u8 none ([] : List Int), ν .u8 (ad g) ([120] : List Int)] (fl_Read_spec a e z m g0 E f0 n j k i l p q y s K I t x u v ⟨#[99]⟩ ‹_› ‹_› ‹_› (by exact febl_n (good_febl (FS.good ‹_›)) (by omega)) ‹_› (by omega) (fun h => l0 (by exact h)) ‹_› (by exact good_bnd (FS.good ‹_›)) E0 ‹_› ‹_› (fun h => C0 (by exact h)) ‹_› ‹_› ‹_› (by omega) ‹_› ‹_› (fun h => F0 (by exact h))) [1, 1, 1, 1, 1, 1, 1, 1, 1] ?_)
 rintro _ _ ⟨n0, I0, L0, B0, W0, f, rfl, rfl, c1, M1, X0, W1, y1⟩
 have e1 : Tells (κ 5 .u8 n0 L0 I0 B0) (n0) (nums .u8 W0) := by rw [X0]; exact tells_take_nums (tells_row _ _ _ _ _ _) _
 (have p1 := aw_c ‹_› ‹_› c1)
 refine RunR.sl hU [] 5 7 [0, 1, 2, 3, 4, 5, 7] [(0, η false), (1, pt a), (2, ι R), (3, ι G), (4, ς d c.length c.length), (5, ι o), (7, ι f)] 5 ?_
 refine RunR.nx ?_
 refine RunR.sl hU [] 3 3 [0, 1, 3, 4, 5, 7, 36] [(0, η false), (1, pt a), (3, ι G), (4, ς d c.length c.length), (5, ι o), (7, ι f), (36, η (decide (R = 0)))] 3 ?_
 refine RunR.ev [0, 1, 3, 4, 5, 7, 36] [(0, η false), (1, pt a), (3, ι G), (4, ς d c.length c.length), (5, ι o), (7, ι f), (36, η (decide (R = 0)))] ?_
 have Z0 : (R = 0) := by assumption
 refine RunR.enveq [(0, η false), (1, pt a), (3, ι G), (4, ς d c.length c.length), (5, ι o), (7, ι f), (36, η true)] (by rw [decide_eq_true Z0]; try rfl) ?_
 refine RunR.sl hU [] 4 7 [0, 1, 4, 5, 7, 40] [(0, η false), (1, pt a), (4, ς d c.length c.length), (5, ι o), (7, ι f), (40, η (decide (G = 1)))] 4 ?_
 refine RunR.ev [0, 1, 4, 5, 7, 40] [(0, η false), (1, pt a), (4, ς d c.length c.length), (5, ι o), (7, ι f), (40, η (decide (G = 1)))] ?_
 have O0 : (G = 1) := by assumption
 refine RunR.enveq [(0, η false), (1, pt a), (4, ς d c.length c.length), (5, ι o), (7, ι f), (40, η true)] (by rw [decide_eq_true O0]; try rfl) ?_
 refine RunR.sl hU [] 4 11 [0, 1, 4, 7, 44] [(0, η false), (1, pt a), (4, ς d c.length c.length), (7, ι f), (44, η (decide (o = 0)))] 4 ?_
 refine RunR.ev [0, 1, 4, 7, 44] [(0, η false), (1, pt a), (4, ς d c.length c.length), (7, ι f), (44, η (decide (o = 0)))] ?_
 have N0 : (o = 0) := by exact And.left ‹_›
 refine RunR.enveq [(0, η false), (1, pt a), (4, ς d c.length c.length), (7, ι f), (44, η true)] (by rw [decide_eq_true N0]; try rfl) ?_
 refine RunR.sl hU [] 1 12 [0, 1, 7, 44, 45] [(0, η false), (1, pt a), (7, ι f), (44, η true), (45, ς d c.length c.length)] 1 ?_
 refine RunR.st (some 46) (.convert 22 9 (.tmp 45)) (Step.bytes_str hU 5 10 (κ 5 .u8 d v0 Y e0) d c.length c.length c rfl rfl rfl (by kernel_rfl) (by kernel_rfl) (G0) (by rfl) (by kernel_rfl) ?_)
 refine RunR.sl hU [] 3 16 [0, 1, 7, 49] [(0, η false), (1, pt a), (7, ι f), (49, η (decide ((strOfNums c) = ⟨#[120]⟩)))] 3 ?_
 refine RunR.ev [0, 1, 7, 49] [(0, η false), (1, pt a), (7, ι f), (49, η (decide ((strOfNums c) = ⟨#[120]⟩)))] ?_
 have V0 : ((strOfNums c) = ⟨#[120]⟩) := by exact str_x ‹_›
 refine RunR.enveq [(0, η false), (1, pt a), (7, ι f), (49, η true)] (by rw [decide_eq_true V0]; try rfl) ?_
 refine RunR.sl hU [] 4 20 [0, 1, 53] [(0, η false), (1, pt a), (53, η (decide (f = 4)))] 4 ?_
 refine RunR.ev [0, 1, 53] [(0, η false), (1, pt a), (53, η (decide (f = 4)))] ?_
 have T0 : (f = 4) := by assumption
 refine RunR.enveq [(0, η false), (1, pt a), (53, η true)] (by rw [decide_eq_true T0]; try rfl) ?_
 refine RunR.sl hU [] 1 21 [0, 53, 54] [(0, η false), (53, η true), (54, pt a)] 1 ?_
 refine RunR.st (some 55) (.call { callee := .value (.func 11), args := #[.tmp 54], argTypes := #[24] }) (Step.cn 11 [pt a] [blk a 51 [pt e, .map (some m), ς n j k, η z], κ 3 .i64 n j k i] (κ 5 .u8 n0 L0 I0 B0 :: mpf m (g0.map feM) E :: rws .i64 f0 :: blk e 71 [pt l] :: δ l p q y s K I t x u v [κ 5 .u8 d v0 Y e0, row 31 3 (ς (ad Q) 2 2) 2 (recV fcC ([(⟨#[97]⟩, true, none, 0, ([] : List Int)), (⟨#[97]⟩, true, none, 0, ([] : List Int))] : List Fc)), row 31 3 (ς (ad A) 2 2) 2 (recV fcC ([(⟨#[97]⟩, false, some ⟨g, 0, none⟩, 1, ([120] : List Int)), (⟨#[98]⟩, false, none, 0, ([] : List Int))] : List Fc)), ν .u8 none ([] : List Int), ν .u8 (ad g) ([120] : List Int)]) (fl_Free_spec a e (.map (some m)) z n j k i ‹_› (fun h => l0 (by exact h)) ‹_› (by omega)) [1, 2] ?_)
 rintro _ _ ⟨rfl, rfl, c2⟩
 refine RunR.sl hU [] 3 25 [0] [(0, η (decide (((frL i).length : Int) = 5)))] 3 ?_
 refine RunR.ev [0] [(0, η (decide (((frL i).length : Int) = 5)))] ?_
 have a1 : (((frL i).length : Int) = 5) := by exact aw_free ‹_› ‹_›
 refine RunR.enveq [(0, η true)] (by rw [decide_eq_true a1]; try rfl) ?_
 refine RunR.nn ?_
 refine RunC.ret ?_
 refine kret_r [η true] [] [] ⟨rfl, trivial⟩ (by kernel_rfl) rfl ⟨rfl, rfl⟩
end Go.Proofs.Ytlibhidhfbecbaa.LFileOne
