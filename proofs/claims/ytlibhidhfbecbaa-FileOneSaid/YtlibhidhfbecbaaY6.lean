import Derived.Test.YtlibhidhfbecbaaOnePure
import Derived.Test.YtlibhidhfbecbaaProg
import Derived.Test.YtlibhidhfbecbaaY5
namespace Go.Proofs.Ytlibhidhfbecbaa.LFileOne
open Go Go.Proofs.Ytlibhidhfbecbaa.SL Go.Proofs.Ytlibhidhfbecbaa.SL.W Go.Proofs.Ytlibhidhfbecbaa.SL.D Go.Proofs.Ytlibhidhfbecbaa.SL.I Go.Proofs.Ytlibhidhfbecbaa.XT
set_option linter.unusedVariables false
set_option linter.unusedSimpArgs false
set_option maxRecDepth 100000
set_option maxHeartbeats 40000000
theorem fl_put_spec (ei : Nat) (fi : Nat) (me : Nat) (Fs : List Fe) (fc : Nat) (G : List Ro) (Na : Option Addr) (s : Nat) (nk : Nat) (n2 : List Int) (sl : List Bool) (sp : List Int) (Sa : Option Addr) (sn : Nat) (sc : Nat) (wj : Nat) (mv : Value) (NA : Option Addr) (F : Nat) (nc : Nat) (dd : Bool) (d : Nat) (A : Option Addr) (n : Nat) (c : Nat) (ss : List Int) (Wa : Option Addr) (m : Nat) (wc : Nat) (ws : List Ch) (lf : Int) (dn : Bool) (nm : ByteArray) (BA : Option Addr) (bc : Nat) (bs : List Int) (l_bs : Nat) (hFe : FeOK Fs) (hFm : FMOK Fs fc) (hFi : FeIn Fs G) (hFb : FeBl Fs (nk : Int)) (A1 : n2.length = nk) (hNa : 0 < nk → Option.isSome Na = true) (w1 : nk ≤ s) (n1 : nk ≤ 2048) (hsll : sl.length = 64) (hkd : (nk : Int) ≤ datN n) (hSp : sp.length = sn) (hSc : sn ≤ sc) (E1 : sn ≤ 2048) (hspb : ∀ i ∈ sp, 0 ≤ i ∧ i < (nk : Int)) (hspi : In .i64 sp) (hneed : need (bs.length : Int) ≤ (sn : Int)) (hfr : ∃ j : Nat, j < 64 ∧ (dropS Fs sl nm).getD j false = false) (hIbs : In .u8 bs) (hbc : bs.length ≤ bc) (hbb : bs.length ≤ 1000000000) (hss : In .u8 ss) (hnl : ss.length = n) (hnc : n ≤ c) (hAs : 0 < n → Option.isSome A = true) (D1 : n % 256 = 0) (hnb : n ≤ 557056) (hml : ws.length = m) (hmb : m ≤ 800000) (hok : ChOK .u8 ws) (hwk : WOK n ws) (hWs : 0 < m → Option.isSome Wa = true) (hlf : 0 ≤ lf ∧ lf < 9223372036854775808) (hl_bs : bs.length = l_bs) :
 CallsS Try.prog 17 [pt ei, .string nm, ς BA l_bs bc] (blk ei 87 (([pt fi] : List Value) ++ (([.map (some me)] : List Value) ++ (([ς Na nk s] : List Value) ++ (bls sl ++ ([ς Sa sn sc] : List Value))))) :: mpf me (Fs.map feM) fc :: κ 3 .i64 Na nk s n2 :: rws .i64 G :: blk fi 51 [pt wj, mv, ς NA F nc, η dd] :: blk wj 71 [pt d] :: δ d A n c ss Wa m wc ws lf dn [ν .i64 Sa sp, ν .u8 BA bs]) (fun r D => (∃ (e : Int) (Wb : Option Addr) (m2 : Nat) (v0 : Nat) (L : List Ch) (R : Int) (e0 : Bool), r = ι e ∧ D = (rws .i64 G :: blk fi 51 [pt wj, mv, ς NA F nc, η dd] :: blk wj 71 [pt d] :: δ d A n c ss Wb m2 v0 L R e0 []) ∧ ((e, dat L, R, e0) = wrs n (dat ws) lf dn (putW (sp.take (need (bs.length : Int)).toNat) bs)) ∧ (¬ e = 0) ∧ (L.length = m2) ∧ (m2 ≤ m + need (bs.length : Int)) ∧ (ChOK .u8 L) ∧ (WOK n L) ∧ (0 < m2 → Option.isSome Wb = true) ∧ (0 ≤ R ∧ R < 9223372036854775808)) ∨ (∃ (Wb : Option Addr) (m2 : Nat) (v0 : Nat) (L : List Ch) (R : Int) (e0 : Bool) (F3 : List Fe) (c3 : Nat) (n3 : List Int) (y0 : List Bool) (Sb : Option Addr) (z0 : Nat) (D0 : Nat) (G3 : List Ro) (ix : Int) (Ab : Option Addr) (cb : Nat) (zs : List Int), r = ι 0 ∧ D = (blk ei 87 (([pt fi] : List Value) ++ (([.map (some me)] : List Value) ++ (([ς Na nk s] : List Value) ++ (bls y0 ++ ([ς Sb z0 D0] : List Value))))) :: mpf me (F3.map feM) c3 :: κ 3 .i64 Na nk s n3 :: rws .i64 G3 :: blk fi 51 [pt wj, mv, ς NA F nc, η dd] :: blk wj 71 [pt d] :: δ d A n c ss Wb m2 v0 L R e0 []) ∧ ((0, dat L, R, e0) = wrs n (dat ws) lf dn (putW zs bs)) ∧ (L.length = m2) ∧ (m2 ≤ m + need (bs.length : Int)) ∧ (ChOK .u8 L) ∧ (WOK n L) ∧ (0 < m2 → Option.isSome Wb = true) ∧ (0 ≤ R ∧ R < 9223372036854775808) ∧ (zs = sp.take (need (bs.length : Int)).toNat) ∧ (F3 = fput (fdel Fs nm) fc ⟨nm, ix, (bs.length : Int), Ab, cb, zs, 0⟩) ∧ (c3 = fclock (fdel Fs nm) fc nm) ∧ (n3 = chainS (dropN Fs n2 nm) zs zs.length) ∧ (n3.length = nk) ∧ (y0 = (dropS Fs sl nm).set ix.toNat true) ∧ (y0.length = 64) ∧ (0 ≤ ix ∧ ix < 64 ∧ (dropS Fs sl nm).getD ix.toNat false = false) ∧ (G3 = (Ab, cb, zs) :: G) ∧ (zs.length ≤ cb) ∧ (0 < zs.length → Option.isSome Ab = true) ∧ (z0 = sn - (need (bs.length : Int)).toNat) ∧ (z0 ≤ D0) ∧ (∀ f, Tells f Sa (nums .i64 sp) → Tells f Sb (nums .i64 (sp.drop (need (bs.length : Int)).toNat))))) := by
 subst hl_bs
 refine CallsS.enter hU Try.f17 _ [.tmp 6] 107 Try.func17 rfl (by decide) rfl rfl (by kernel_rfl) fun w0 W => ?_
 have hdb := datN_bd n; have hnd_ : 0 ≤ need (bs.length : Int) ∧ 256 * need (bs.length : Int) ≤ bs.length + 255 ∧ (bs.length : Int) ≤ 256 * need (bs.length : Int) := by unfold need; omega
 refine RunC.know (p := 0 < sp.length → Option.isSome Sa = true) (fun _ _ w hs => vw_some hs 10 rfl (by (simp [nums_length]; done))) (fun K0 => ?_)
 refine RunC.know (p := 0 < bs.length → Option.isSome BA = true) (fun _ _ w hs => vw_some hs 11 rfl (by (simp [nums_length]; done))) (fun H0 => ?_)
 refine RunC.sr ?_
 refine RunR.sl hU [] 1 1 [0, 1, 2, 6] [(0, pt ei), (1, .string nm), (2, ς BA bs.length bc), (6, ι 0)] 1 ?_
 refine RunR.nx ?_
 refine RunR.sl hU [] 2 2 [0, 1, 2, 6, 13, 14] [(0, pt ei), (1, .string nm), (2, ς BA bs.length bc), (6, ι 0), (13, pt ei), (14, .string nm)] 2 ?_
 refine RunR.st (some 15) (.call { callee := .value (.func 16), args := #[.tmp 13, .tmp 14], argTypes := #[52, 9] }) (Step.cn 16 [pt ei, .string nm] [blk ei 87 (([pt fi] : List Value) ++ (([.map (some me)] : List Value) ++ (([ς Na nk s] : List Value) ++ (bls sl ++ ([ς Sa sn sc] : List Value))))), mpf me (Fs.map feM) fc, κ 3 .i64 Na nk s n2, rws .i64 G] (blk fi 51 [pt wj, mv, ς NA F nc, η dd] :: blk wj 71 [pt d] :: δ d A n c ss Wa m wc ws lf dn [ν .i64 Sa sp, ν .u8 BA bs]) (fl_drop_spec ei fi me Fs fc G Na s nk n2 sl Sa sn sc nm ‹_› ‹_› ‹_› ‹_› ‹_› (fun h => hNa (by exact h)) ‹_› ‹_› ‹_›) [0, 0, 0, 0] ?_)
 rintro _ _ ⟨y, f0, t, rfl, rfl, i0, N0, C1, u0, j1⟩
 have x0 := hFm.del nm; rw [← i0] at x0; have s0 := hFe.del nm; rw [← i0] at s0
 refine RunR.nx ?_
 refine RunR.sl hU [] 4 4 [0, 1, 2, 6, 19] [(0, pt ei), (1, .string nm), (2, ς BA bs.length bc), (6, ι 0), (19, ς (some ⟨ei, 3, none⟩) 64 64)] 4 ?_
 refine RunR.st (some 20) (.call { callee := .value (.func 37), args := #[.tmp 19, .const (η false)], argTypes := #[78, 4] }) (Step.cl 37 [ς (some ⟨ei, 3, none⟩) 64 64, η false] [] [vw (some ⟨ei, 3, none⟩) (bls t)] (blk ei 87 (([pt fi] : List Value) ++ (([.map (some me)] : List Value) ++ (([ς Na nk s] : List Value) ++ (bls t ++ ([ς Sa sn sc] : List Value))))) :: mpf me (y.map feM) fc :: κ 3 .i64 Na nk s f0 :: rws .i64 G :: blk fi 51 [pt wj, mv, ς NA F nc, η dd] :: blk wj 71 [pt d] :: δ d A n c ss Wa m wc ws lf dn [ν .i64 Sa sp, ν .u8 BA bs]) (fl_Ix_spec (some ⟨ei, 3, none⟩) 64 64 t false ‹_› (by omega)) [] ((Lend.nil _).tells 0 (blk ei 87 (([pt fi] : List Value) ++ (([.map (some me)] : List Value) ++ (([ς Na nk s] : List Value) ++ (bls t ++ ([ς Sa sn sc] : List Value)))))) (some ⟨ei, 3, none⟩) (bls t) (by kernel_rfl) (tells_seg (show Seg _ 3 _ from Seg.skip (n := 1) (o := 2) rfl (Seg.skip (n := 1) (o := 1) rfl (Seg.skip (n := 1) (o := 0) rfl (Seg.here _ _)))))) ?_)
 rintro _ _ ⟨l, rfl, rfl, n0⟩
 obtain ⟨M0, L0, O0⟩ := free_slot n0 (by rw [u0]; exact hfr)
 refine RunR.sl hU [] 3 8 [0, 1, 2, 6, 23] [(0, pt ei), (1, .string nm), (2, ς BA bs.length bc), (6, ι 0), (23, .agg #[ι l, ι (bs.length : Int), ς0])] 3 ?_
 refine RunR.st (some 7) (.alloc 63) (Step.al hU 3 40 (.agg #[ι 0, ι 0, ς0]) (fun q => ?_))
 refine RunR.st none (.store 63 (.tmp 7) (.tmp 23)) (Step.store_blk hU 0 q 0 63 [ι 0, ι 0, ς0] (.agg #[ι l, ι (bs.length : Int), ς0]) (by kernel_rfl) (by kernel_rfl) (by kernel_rfl) 3 rfl [ι l, ι (bs.length : Int), ς0] (by kernel_rfl) rfl (by kernel_rfl) (by decide) ?_)
 refine RunR.nx ?_
 refine RunR.sl hU [] 2 2 [0, 1, 2, 6, 7, 25] [(0, pt ei), (1, .string nm), (2, ς BA bs.length bc), (6, ι 0), (7, pt q), (25, ι (bs.length : Int))] 2 ?_
 refine RunR.st (some 26) (.call { callee := .value (.func 33), args := #[.tmp 25], argTypes := #[3] }) (Step.cn 33 [ι (bs.length : Int)] [] (blk q 63 [ι l, ι (bs.length : Int), ς0] :: blk ei 87 (([pt fi] : List Value) ++ (([.map (some me)] : List Value) ++ (([ς Na nk s] : List Value) ++ (bls t ++ ([ς Sa sn sc] : List Value))))) :: mpf me (y.map feM) fc :: κ 3 .i64 Na nk s f0 :: rws .i64 G :: blk fi 51 [pt wj, mv, ς NA F nc, η dd] :: blk wj 71 [pt d] :: δ d A n c ss Wa m wc ws lf dn [ν .i64 Sa sp, ν .u8 BA bs]) (fl_need_spec (bs.length : Int) (by omega)) [] ?_)
 rintro _ _ ⟨rfl, rfl, i1⟩
 refine RunR.sl hU [] 1 4 [0, 1, 2, 6, 7, 8] [(0, pt ei), (1, .string nm), (2, ς BA bs.length bc), (6, ι 0), (7, pt q), (8, ι (need (bs.length : Int)))] 1 ?_
 refine RunR.nn ?_
 refine RunC.seq ?_
 refine RunC.regionU hU 19 [blk ei 87 (([pt fi] : List Value) ++ (([.map (some me)] : List Value) ++ (([ς Na nk s] : List Value) ++ (bls t ++ ([ς Sa sn sc] : List Value)))))] [1] [16, 17, 18] (bm 19 0) (by kernel_rfl) (by kernel_rfl) (by kernel_rfl) ?_
 refine RunU.sl hU 0 (bm 19 1) 27 (pt ei) ?_
 refine RunU.sl hU 1 (bm 19 3) 28 (pt ei) ?_
 refine RunU.sl hU 2 (bm 19 7) 29 (pt ei) ?_
 refine RunU.sl hU 3 (bm 19 15) 30 (.pointer (some ⟨ei, 67, none⟩)) ?_
 refine RunU.rd 4 (bm 19 31) 31 (.load 49 (.tmp 30)) (ς Sa sn sc) [1] (Reads.load_blk hU 0 ei (67) 87 (([pt fi] : List Value) ++ (([.map (some me)] : List Value) ++ (([ς Na nk s] : List Value) ++ (bls t ++ ([ς Sa sn sc] : List Value))))) (ς Sa sn sc) (by kernel_rfl) (by kernel_rfl) (loadv_one (by kernel_rfl) (show Seg _ 67 _ from Seg.skip (n := 1) (o := 66) rfl (Seg.skip (n := 1) (o := 65) rfl (Seg.skip (n := 1) (o := 64) rfl (Seg.skip (n := 64) (o := 0) (by rw [bls_len]; assumption) (Seg.all _))))))) ?_
 refine RunU.sl hU 5 (bm 19 63) 32 (ι (need (bs.length : Int))) ?_
 refine RunU.sil hU false 6 (bm 19 127) 33 (ς Sa ((need (bs.length : Int)).toNat) sc) (0 ≤ (need (bs.length : Int)) ∧ (need (bs.length : Int)) ≤ (sc : Int)) (by kernel_rfl) (by omega) (by kernel_rfl) (by kernel_rfl) (fun _ _ _ h => h) ?_
 obtain ⟨C, H⟩ : ∃ z : List Int, z = sp.take ((need (bs.length : Int)).toNat) := ⟨_, rfl⟩
 have G0 : C.length = ((need (bs.length : Int)).toNat) := by rw [H, List.length_take]; omega
 have h0 : Tells (ν .i64 Sa sp) (Sa) (nums .i64 C) := by rw [H]; exact tells_take_nums (tells_vw _ _) _
 refine RunU.ev [0, 1, 2, 6, 7, 8, 27, 28, 29, 30, 31, 32, 33] [(0, pt ei), (1, .string nm), (2, ς BA bs.length bc), (6, ι 0), (7, pt q), (8, ι (need (bs.length : Int))), (27, pt ei), (28, pt ei), (29, pt ei), (30, .pointer (some ⟨ei, 67, none⟩)), (31, ς Sa sn sc), (32, ι (need (bs.length : Int))), (33, ς Sa ((need (bs.length : Int)).toNat) sc)] ?_
 refine RunU.enveq [(0, pt ei), (1, .string nm), (2, ς BA bs.length bc), (6, ι 0), (7, pt q), (8, ι (need (bs.length : Int))), (27, pt ei), (28, pt ei), (29, pt ei), (30, .pointer (some ⟨ei, 67, none⟩)), (31, ς Sa sn sc), (32, ι (need (bs.length : Int))), (33, ς Sa C.length sc)] (by rw [G0]) ?_
 have B0 : In .i64 C := by rw [H]; exact hspi.take _
 refine RunU.sl hU 8 (bm 19 383) 35 (pt ei) ?_
 refine RunU.sl hU 9 (bm 19 895) 36 (pt ei) ?_
 refine RunU.sl hU 10 (bm 19 1919) 37 (.pointer (some ⟨ei, 67, none⟩)) ?_
 refine RunU.rd 11 (bm 19 3967) 38 (.load 49 (.tmp 37)) (ς Sa sn sc) [1] (Reads.load_blk hU 0 ei (67) 87 (([pt fi] : List Value) ++ (([.map (some me)] : List Value) ++ (([ς Na nk s] : List Value) ++ (bls t ++ ([ς Sa sn sc] : List Value))))) (ς Sa sn sc) (by kernel_rfl) (by kernel_rfl) (loadv_one (by kernel_rfl) (show Seg _ 67 _ from Seg.skip (n := 1) (o := 66) rfl (Seg.skip (n := 1) (o := 65) rfl (Seg.skip (n := 1) (o := 64) rfl (Seg.skip (n := 64) (o := 0) (by rw [bls_len]; assumption) (Seg.all _))))))) ?_
 refine RunU.sl hU 12 (bm 19 8063) 39 (ι (need (bs.length : Int))) ?_
 refine RunU.sil hU false 13 (bm 19 16255) 40 (ς (subBase Sa ((need (bs.length : Int)).toNat) sc 1) (sn - ((need (bs.length : Int)).toNat)) (sc - ((need (bs.length : Int)).toNat))) (0 ≤ (need (bs.length : Int)) ∧ (need (bs.length : Int)) ≤ (sn : Int)) (by kernel_rfl) (by omega) (by kernel_rfl) (by kernel_rfl) (fun _ _ _ h => h) ?_
 obtain ⟨u, g0⟩ : ∃ z : List Int, z = (sp.drop ((need (bs.length : Int)).toNat)).take (sn - ((need (bs.length : Int)).toNat)) := ⟨_, rfl⟩
 have E0 : u.length = sn - ((need (bs.length : Int)).toNat) := by rw [g0, List.length_take, List.length_drop]; omega
 have J0 : Tells (ν .i64 Sa sp) (subBase Sa ((need (bs.length : Int)).toNat) sc 1) (nums .i64 u) := by rw [g0]; exact tells_sub_nums (tells_vw _ _) _ _ _ (by omega) (by omega)
 have k1 : 0 < u.length → Option.isSome (subBase Sa ((need (bs.length : Int)).toNat) sc 1) = true := fun h => part_some (K0 (by omega)) _ _ _
 refine RunU.ev [0, 1, 2, 6, 7, 8, 27, 28, 29, 30, 31, 32, 33, 35, 36, 37, 38, 39, 40] [(0, pt ei), (1, .string nm), (2, ς BA bs.length bc), (6, ι 0), (7, pt q), (8, ι (need (bs.length : Int))), (27, pt ei), (28, pt ei), (29, pt ei), (30, .pointer (some ⟨ei, 67, none⟩)), (31, ς Sa sn sc), (32, ι (need (bs.length : Int))), (33, ς Sa C.length sc), (35, pt ei), (36, pt ei), (37, .pointer (some ⟨ei, 67, none⟩)), (38, ς Sa sn sc), (39, ι (need (bs.length : Int))), (40, ς (subBase Sa ((need (bs.length : Int)).toNat) sc 1) (sn - ((need (bs.length : Int)).toNat)) (sc - ((need (bs.length : Int)).toNat)))] ?_
 refine RunU.enveq [(0, pt ei), (1, .string nm), (2, ς BA bs.length bc), (6, ι 0), (7, pt q), (8, ι (need (bs.length : Int))), (27, pt ei), (28, pt ei), (29, pt ei), (30, .pointer (some ⟨ei, 67, none⟩)), (31, ς Sa sn sc), (32, ι (need (bs.length : Int))), (33, ς Sa C.length sc), (35, pt ei), (36, pt ei), (37, .pointer (some ⟨ei, 67, none⟩)), (38, ς Sa sn sc), (39, ι (need (bs.length : Int))), (40, ς (subBase Sa ((need (bs.length : Int)).toNat) sc 1) u.length (sc - ((need (bs.length : Int)).toNat)))] (by rw [E0]) ?_
 have r1 : In .i64 u := by rw [g0]; exact (hspi.drop _).take _
 refine RunU.on (some 34) (.call { callee := .value (.func 35), args := #[.tmp 33], argTypes := #[49] }) 7 (bm 19 16383) [2] (Step.cl 35 [ς Sa C.length sc] [] [ν .i64 Sa C] (blk q 63 [ι l, ι (bs.length : Int), ς0] :: blk ei 87 (([pt fi] : List Value) ++ (([.map (some me)] : List Value) ++ (([ς Na nk s] : List Value) ++ (bls t ++ ([ς Sa sn sc] : List Value))))) :: mpf me (y.map feM) fc :: κ 3 .i64 Na nk s f0 :: rws .i64 G :: blk fi 51 [pt wj, mv, ς NA F nc, η dd] :: blk wj 71 [pt d] :: δ d A n c ss Wa m wc ws lf dn [ν .i64 Sa sp, ν .u8 BA bs]) (fl_SCl_spec Sa sc C C.length B0 (by omega) (by omega) (by rfl)) [] ((Lend.nil _).tells 11 (ν .i64 Sa sp) Sa (nums .i64 C) (by kernel_rfl) (h0)) ?_)
 rintro _ _ ⟨g, k, a, rfl, rfl, a0, q0, e1, p0⟩
 refine orL ?_
 refine RunU.sl hU 14 (bm 19 32767) 41 (.pointer (some ⟨q, 2, none⟩)) ?_
 refine RunU.on none (.store 49 (.tmp 41) (.tmp 34)) 15 (bm 19 65535) [2] (Step.store_blk hU 1 q 2 63 [ι l, ι (bs.length : Int), ς0] (ς g a.length k) (by kernel_rfl) (by kernel_rfl) (by kernel_rfl) 1 rfl [ς g a.length k] (by kernel_rfl) rfl (by kernel_rfl) (by simp) ?_)
 refine orL ?_
 refine RunU.sl hU 16 (bm 19 131071) 42 (pt ei) ?_
 refine RunU.sl hU 17 (bm 19 262143) 43 (.pointer (some ⟨ei, 67, none⟩)) ?_
 refine RunU.on none (.store 49 (.tmp 43) (.tmp 40)) 18 (bm 19 524287) [] (Step.store_seg hU 2 ei (67) 87 (([pt fi] : List Value) ++ (([.map (some me)] : List Value) ++ (([ς Na nk s] : List Value) ++ (bls t ++ ([ς Sa sn sc] : List Value))))) (([pt fi] : List Value) ++ (([.map (some me)] : List Value) ++ (([ς Na nk s] : List Value) ++ (bls t ++ ([ς (subBase Sa ((need (bs.length : Int)).toNat) sc 1) u.length (sc - ((need (bs.length : Int)).toNat))] : List Value))))) ([ς (subBase Sa ((need (bs.length : Int)).toNat) sc 1) u.length (sc - ((need (bs.length : Int)).toNat))]) (ς (subBase Sa ((need (bs.length : Int)).toNat) sc 1) u.length (sc - ((need (bs.length : Int)).toNat))) (by kernel_rfl) (by kernel_rfl) (by kernel_rfl) 1 (by kernel_rfl) (by kernel_rfl) (by rfl) (by kernel_rfl) (show Put _ 67 _ _ from Put.skip (n := 1) (o := 66) rfl (Put.skip (n := 1) (o := 65) rfl (Put.skip (n := 1) (o := 64) rfl (Put.skip (n := 64) (o := 0) (by rw [bls_len]; assumption) (Put.all rfl))))) ?_)
 refine orR ?_
 refine RunU.ev [0, 1, 2, 6, 7] [(0, pt ei), (1, .string nm), (2, ς BA bs.length bc), (6, ι 0), (7, pt q)] ?_
 refine RunU.dn ?_
 refine kseq_n ?_
 refine RunC.seq ?_
 refine RunC.sr ?_
 refine RunR.sl hU [] 1 1 [0, 1, 2, 6, 7, 44] [(0, pt ei), (1, .string nm), (2, ς BA bs.length bc), (6, ι 0), (7, pt q), (44, .pointer (some ⟨q, 2, none⟩))] 1 ?_
 refine RunR.st (some 45) (.load 49 (.tmp 44)) (Step.load_blk hU 1 q (2) 63 [ι l, ι (bs.length : Int), ς g a.length k] (ς g a.length k) (by kernel_rfl) (by kernel_rfl) (by kernel_rfl) (by kernel_rfl) ?_)
 refine RunR.sl hU [] 2 4 [0, 1, 2, 6, 7, 45, 46, 47] [(0, pt ei), (1, .string nm), (2, ς BA bs.length bc), (6, ι 0), (7, pt q), (45, ς g a.length k), (46, ι (a.length : Int)), (47, ι 0)] 2 ?_
 refine RunR.nn ?_
 refine RunC.block ?_
 refine RunC.env [0, 1, 2, 7, 45, 46, 47] [(0, pt ei), (1, .string nm), (2, ς BA bs.length bc), (7, pt q), (45, ς g a.length k), (46, ι (a.length : Int)), (47, ι 0)] (by kernel_rfl) ?_
 refine RunC.only [4, 7, 8, 8, 0, 0, 0, 0, 0, 0, 0, 0, 0, 0] [κ 3 .i64 Na nk s f0, blk d 47 [ς A n c, ς Wa m wc, ι lf, η dn], ξ Wa m wc ws, chd .u8 ws, blk ei 87 (([pt fi] : List Value) ++ (([.map (some me)] : List Value) ++ (([ς Na nk s] : List Value) ++ (bls t ++ ([ς (subBase Sa ((need (bs.length : Int)).toNat) sc 1) u.length (sc - ((need (bs.length : Int)).toNat))] : List Value))))), blk q 63 [ι l, ι (bs.length : Int), ς g a.length k], κ 3 .i64 g a.length k a, mpf me (y.map feM) fc, rws .i64 G, blk fi 51 [pt wj, mv, ς NA F nc, η dd], blk wj 71 [pt d], κ 5 .u8 A n c ss, ν .i64 Sa sp, ν .u8 BA bs] (by kernel_rfl) ?_
 refine RunC.loop (σ := Nat) (fun n_ t_ D_ => ∃ (i : Int) (N : List Int) (Wl : Option Addr) (ml : Nat) (wl : Nat) (wsl : List Ch) (ll : Int) (dl : Bool), (0 ≤ i) ∧ (i ≤ (a.length : Int)) ∧ (N = chainS (dropN Fs n2 nm) a i.toNat) ∧ (N.length = nk) ∧ ((0, dat wsl, ll, dl) = wrs n (dat ws) lf dn ((putW a bs).take i.toNat)) ∧ (wsl.length = ml) ∧ ((ml : Int) ≤ m + i) ∧ (ChOK .u8 wsl) ∧ (WOK n wsl) ∧ (0 < ml → Option.isSome Wl = true) ∧ (0 ≤ ll ∧ ll < 9223372036854775808) ∧ (∀ i_ ∈ a, 0 ≤ i_ ∧ i_ < (nk : Int)) ∧ ((a).length = (need (bs.length : Int)).toNat) ∧ n_ = ((a.length - i).toNat : Nat) ∧ t_ = [(0, pt ei), (1, .string nm), (2, ς BA bs.length bc), (7, pt q), (45, ς g a.length k), (46, ι (a.length : Int)), (47, ι i)] ∧ D_ = [κ 3 .i64 Na nk s N, blk d 47 [ς A n c, ς Wl ml wl, ι ll, η dl], ξ Wl ml wl wsl, chd .u8 wsl, blk ei 87 (([pt fi] : List Value) ++ (([.map (some me)] : List Value) ++ (([ς Na nk s] : List Value) ++ (bls t ++ ([ς (subBase Sa ((need (bs.length : Int)).toNat) sc 1) u.length (sc - ((need (bs.length : Int)).toNat))] : List Value))))), blk q 63 [ι l, ι (bs.length : Int), ς g a.length k], κ 3 .i64 g a.length k a, mpf me (y.map feM) fc, rws .i64 G, blk fi 51 [pt wj, mv, ς NA F nc, η dd], blk wj 71 [pt d], κ 5 .u8 A n c ss, ν .i64 Sa sp, ν .u8 BA bs]) id _ ⟨0, f0, Wa, m, wc, ws, lf, dn, (by omega), (by omega), (by rw [N0]; rfl), ‹_›, (by rfl), ‹_›, (by omega), ‹_›, ‹_›, ‹_›, ‹_›, (by exact sp_bd hspb H a0), (by rw [a0]; assumption), rfl, rfl, rfl⟩ ?_
 rintro n_ _ _ ⟨i, N, Wl, ml, wl, wsl, ll, dl, hi, B1, t0, m0, hwr, hmll, hmbl, hokl, hwkl, hWl, hlfl, hzb, hzl, rfl, rfl, rfl⟩
 refine RunC.sr ?_
 refine RunR.sl hU [] 1 1 [0, 1, 2, 7, 45, 46, 47, 48] [(0, pt ei), (1, .string nm), (2, ς BA bs.length bc), (7, pt q), (45, ς g a.length k), (46, ι (a.length : Int)), (47, ι i), (48, η (decide (i < (a.length : Int))))] 1 ?_
 refine RunR.nn ?_
 refine RunC.seq ?_
 refine RunC.condp (i < (a.length : Int)) (by kernel_rfl) (fun S0 => ?_) (fun S0 => ?_)
 ·refine RunC.ks ?_
  refine RunC.seq ?_
  refine RunC.block ?_
  refine RunC.sr ?_
  refine RunR.sil hU [] 2 2 [0, 1, 2, 7, 45, 46, 47, 49, 50] [(0, pt ei), (1, .string nm), (2, ς BA bs.length bc), (7, pt q), (45, ς g a.length k), (46, ι (a.length : Int)), (47, ι i), (49, ι i), (50, .pointer (elemAt g i 1))] ((True) ∧ ((0 ≤ i ∧ i < (a.length : Int)) ∧ Option.isSome g = true) ∧ True) rfl (by kernel_rfl) ⟨trivial, ⟨by omega, p0 (by omega)⟩, trivial⟩ ?_
  refine RunR.st (some 51) (.load 3 (.tmp 50)) (Step.load_num hU 6 (κ 3 .i64 g a.length k a) g i .i64 a rfl (by kernel_rfl) (by kernel_rfl) (tells_row _ _ _ _ _ _) (by kernel_rfl) (by omega) ?_)
  have q1 := el_bd hzb (by omega : ((i).toNat) < _)
  have o1 : -9223372036854775808 ≤ a.getD ((i).toNat) 0 ∧ a.getD ((i).toNat) 0 < 9223372036854775808 := q0.at_ _
  refine RunR.sl hU [] 2 5 [0, 1, 2, 7, 9, 10, 45, 46, 47] [(0, pt ei), (1, .string nm), (2, ς BA bs.length bc), (7, pt q), (9, ι i), (10, ι (a.getD (i).toNat 0)), (45, ς g a.length k), (46, ι (a.length : Int)), (47, ι i)] 2 ?_
  refine RunR.nx ?_
  refine RunR.sl hU [] 3 3 [0, 1, 2, 7, 9, 10, 45, 46, 47, 54] [(0, pt ei), (1, .string nm), (2, ς BA bs.length bc), (7, pt q), (9, ι i), (10, ι (a.getD (i).toNat 0)), (45, ς g a.length k), (46, ι (a.length : Int)), (47, ι i), (54, .pointer (some ⟨ei, 2, none⟩))] 3 ?_
  refine RunR.st (some 55) (.load 49 (.tmp 54)) (Step.load_blk hU 4 ei (2) 87 (([pt fi] : List Value) ++ (([.map (some me)] : List Value) ++ (([ς Na nk s] : List Value) ++ (bls t ++ ([ς (subBase Sa ((need (bs.length : Int)).toNat) sc 1) u.length (sc - ((need (bs.length : Int)).toNat))] : List Value))))) (ς Na nk s) (by kernel_rfl) (by kernel_rfl) (loadv_one (by kernel_rfl) (show Seg _ 2 _ from Seg.skip (n := 1) (o := 1) rfl (Seg.skip (n := 1) (o := 0) rfl (Seg.here _ _)))) (by kernel_rfl) ?_)
  refine RunR.sil hU [] 2 6 [0, 1, 2, 7, 9, 10, 45, 46, 47, 57] [(0, pt ei), (1, .string nm), (2, ς BA bs.length bc), (7, pt q), (9, ι i), (10, ι (a.getD (i).toNat 0)), (45, ς g a.length k), (46, ι (a.length : Int)), (47, ι i), (57, .pointer (elemAt Na (a.getD (i).toNat 0) 1))] ((True) ∧ ((0 ≤ (a.getD (i).toNat 0) ∧ (a.getD (i).toNat 0) < (nk : Int)) ∧ Option.isSome Na = true) ∧ True) rfl (by kernel_rfl) ⟨trivial, ⟨by omega, hNa (by omega)⟩, trivial⟩ ?_
  refine RunR.st none (.store 3 (.tmp 57) (.const (ι 65535))) (Step.store_num hU 0 3 nk s Na .i64 N (a.getD (i).toNat 0) 65535 (by kernel_rfl) (by kernel_rfl) (by kernel_rfl) rfl (by omega) ?_)
  have f1 : (N.set (a.getD (i).toNat 0).toNat 65535).length = N.length := List.length_set
  refine RunR.nn ?_
  refine RunC.seq ?_
  refine RunC.sr ?_
  refine RunR.sl hU [] 2 2 [0, 1, 2, 7, 9, 10, 45, 46, 47, 59] [(0, pt ei), (1, .string nm), (2, ς BA bs.length bc), (7, pt q), (9, ι i), (10, ι (a.getD (i).toNat 0)), (45, ς g a.length k), (46, ι (a.length : Int)), (47, ι i), (59, η (decide (i > 0)))] 2 ?_
  refine RunR.nn ?_
  refine RunC.condp (i > 0) (by kernel_rfl) (fun Q0 => ?_) (fun Q0 => ?_)
  ·refine RunC.regionU hU 14 [blk ei 87 (([pt fi] : List Value) ++ (([.map (some me)] : List Value) ++ (([ς Na nk s] : List Value) ++ (bls t ++ ([ς (subBase Sa ((need (bs.length : Int)).toNat) sc 1) u.length (sc - ((need (bs.length : Int)).toNat))] : List Value))))), blk q 63 [ι l, ι (bs.length : Int), ς g a.length k], κ 3 .i64 g a.length k a] [4, 5, 6] [12, 13] (bm 14 0) (by kernel_rfl) (by kernel_rfl) (by kernel_rfl) ?_
   refine RunU.sl hU 0 (bm 14 1) 60 (pt ei) ?_
   refine RunU.sl hU 1 (bm 14 3) 61 (pt ei) ?_
   refine RunU.sl hU 2 (bm 14 7) 62 (.pointer (some ⟨ei, 2, none⟩)) ?_
   refine RunU.rd 3 (bm 14 15) 63 (.load 49 (.tmp 62)) (ς Na nk s) [4, 5, 6] (Reads.load_blk hU 0 ei (2) 87 (([pt fi] : List Value) ++ (([.map (some me)] : List Value) ++ (([ς Na nk s] : List Value) ++ (bls t ++ ([ς (subBase Sa ((need (bs.length : Int)).toNat) sc 1) u.length (sc - ((need (bs.length : Int)).toNat))] : List Value))))) (ς Na nk s) (by kernel_rfl) (by kernel_rfl) (loadv_one (by kernel_rfl) (show Seg _ 2 _ from Seg.skip (n := 1) (o := 1) rfl (Seg.skip (n := 1) (o := 0) rfl (Seg.here _ _))))) ?_
   refine RunU.sl hU 4 (bm 14 31) 64 (.pointer (some ⟨q, 2, none⟩)) ?_
   refine RunU.rd 5 (bm 14 63) 65 (.load 49 (.tmp 64)) (ς g a.length k) [4, 5, 6] (Reads.load_blk hU 1 q (2) 63 [ι l, ι (bs.length : Int), ς g a.length k] (ς g a.length k) (by kernel_rfl) (by kernel_rfl) (by kernel_rfl)) ?_
   refine RunU.sl hU 6 (bm 14 127) 66 (ι i) ?_
   refine RunU.sil hU true 7 (bm 14 255) 67 (ι (i - 1)) (-9223372036854775808 ≤ (i - 1) ∧ (i - 1) < 9223372036854775808) (by kernel_rfl) (by omega) (by kernel_rfl) (by kernel_rfl) (fun _ _ _ h => h) ?_
   refine RunU.sil hU false 8 (bm 14 511) 68 (.pointer (elemAt g (i - 1) 1)) ((0 ≤ (i - 1) ∧ (i - 1) < (a.length : Int)) ∧ Option.isSome g = true) (by kernel_rfl) ⟨by omega, p0 (by omega)⟩ (by kernel_rfl) (by kernel_rfl) (fun _ _ _ h => h) ?_
   refine RunU.rd 9 (bm 14 1023) 69 (.load 3 (.tmp 68)) (ι (a.getD (i - 1).toNat 0)) [4, 5, 6] (Reads.load_num hU 2 (κ 3 .i64 g a.length k a) g (i - 1) .i64 a rfl (by kernel_rfl) (by kernel_rfl) (tells_row _ _ _ _ _ _) (by omega)) ?_
   have W0 := el_bd hzb (by omega : ((i - 1).toNat) < _)
   have Y0 : -9223372036854775808 ≤ a.getD ((i - 1).toNat) 0 ∧ a.getD ((i - 1).toNat) 0 < 9223372036854775808 := q0.at_ _
   refine RunU.sl hU 10 (bm 14 2047) 70 (ι (a.getD (i).toNat 0)) ?_
   refine RunU.sil hU true 11 (bm 14 4095) 71 (ι ((a.getD (i).toNat 0) + 1)) (-9223372036854775808 ≤ ((a.getD (i).toNat 0) + 1) ∧ ((a.getD (i).toNat 0) + 1) < 9223372036854775808) (by kernel_rfl) (by omega) (by kernel_rfl) (by kernel_rfl) (fun _ _ _ h => h) ?_
   refine RunU.sil hU false 12 (bm 14 8191) 72 (.pointer (elemAt Na (a.getD (i - 1).toNat 0) 1)) ((0 ≤ (a.getD (i - 1).toNat 0) ∧ (a.getD (i - 1).toNat 0) < (nk : Int)) ∧ Option.isSome Na = true) (by kernel_rfl) ⟨by omega, hNa (by omega)⟩ (by kernel_rfl) (by kernel_rfl) (fun _ _ _ h => h) ?_
   refine RunU.on none (.store 3 (.tmp 72) (.tmp 71)) 13 (bm 14 16383) [] (Step.store_num hU 0 3 nk s Na .i64 (N.set (a.getD (i).toNat 0).toNat 65535) (a.getD (i - 1).toNat 0) ((a.getD (i).toNat 0) + 1) (by kernel_rfl) (by kernel_rfl) (by kernel_rfl) rfl (by omega) ?_)
   have l1 : ((N.set (a.getD (i).toNat 0).toNat 65535).set (a.getD (i - 1).toNat 0).toNat ((a.getD (i).toNat 0) + 1)).length = (N.set (a.getD (i).toNat 0).toNat 65535).length := List.length_set
   refine orR ?_
   refine RunU.ev [0, 1, 2, 7, 9, 10, 45, 46, 47] [(0, pt ei), (1, .string nm), (2, ς BA bs.length bc), (7, pt q), (9, ι i), (10, ι (a.getD (i).toNat 0)), (45, ς g a.length k), (46, ι (a.length : Int)), (47, ι i)] ?_
   refine RunU.dn ?_
   refine kseq_n ?_
   refine RunC.sr ?_
   refine RunR.st (some 73) (.makeSlice 22 (.const (ι 256)) (.const (ι 256))) (Step.make_nums hU 5 1 .u8 .i64 .i64 (256) rfl rfl (by kernel_rfl) (by kernel_rfl) (by omega) (by omega) (by kernel_rfl) (fun B => ?_))
   have g1 : (List.replicate 256 (0 : Int)).length = 256 := List.length_replicate
   refine RunR.sl hU [] 1 2 [0, 1, 2, 7, 9, 10, 11, 45, 46, 47] [(0, pt ei), (1, .string nm), (2, ς BA bs.length bc), (7, pt q), (9, ι i), (10, ι (a.getD (i).toNat 0)), (11, ς (ad B) 256 256), (45, ς g a.length k), (46, ι (a.length : Int)), (47, ι i)] 1 ?_
   refine RunR.nx ?_
   refine RunR.sil hU [3] 5 5 [0, 1, 2, 7, 10, 11, 45, 46, 47, 74, 78] [(0, pt ei), (1, .string nm), (2, ς BA bs.length bc), (7, pt q), (10, ι (a.getD (i).toNat 0)), (11, ς (ad B) 256 256), (45, ς g a.length k), (46, ι (a.length : Int)), (47, ι i), (74, ς (ad B) 256 256), (78, ς (subBase BA ((256 * i).toNat) bc 1) (bs.length - ((256 * i).toNat)) (bc - ((256 * i).toNat)))] ((True) ∧ (True) ∧ (True) ∧ (-9223372036854775808 ≤ (256 * i) ∧ (256 * i) < 9223372036854775808) ∧ (0 ≤ (256 * i) ∧ (256 * i) ≤ (bs.length : Int)) ∧ True) rfl (by kernel_rfl) ⟨trivial, trivial, trivial, (by omega), (by omega), trivial⟩ ?_
   obtain ⟨v, Z⟩ : ∃ z : List Int, z = (bs.drop ((256 * i).toNat)).take (bs.length - ((256 * i).toNat)) := ⟨_, rfl⟩
   have F0 : v.length = bs.length - ((256 * i).toNat) := by rw [Z, List.length_take, List.length_drop]; omega
   have j0 : Tells (ν .u8 BA bs) (subBase BA ((256 * i).toNat) bc 1) (nums .u8 v) := by rw [Z]; exact tells_sub_nums (tells_vw _ _) _ _ _ (by omega) (by omega)
   have s1 : 0 < v.length → Option.isSome (subBase BA ((256 * i).toNat) bc 1) = true := fun h => part_some (H0 (by omega)) _ _ _
   refine RunR.ev [0, 1, 2, 7, 10, 11, 45, 46, 47, 74, 78] [(0, pt ei), (1, .string nm), (2, ς BA bs.length bc), (7, pt q), (10, ι (a.getD (i).toNat 0)), (11, ς (ad B) 256 256), (45, ς g a.length k), (46, ι (a.length : Int)), (47, ι i), (74, ς (ad B) 256 256), (78, ς (subBase BA ((256 * i).toNat) bc 1) (bs.length - ((256 * i).toNat)) (bc - ((256 * i).toNat)))] ?_
   refine RunR.enveq [(0, pt ei), (1, .string nm), (2, ς BA bs.length bc), (7, pt q), (10, ι (a.getD (i).toNat 0)), (11, ς (ad B) 256 256), (45, ς g a.length k), (46, ι (a.length : Int)), (47, ι i), (74, ς (ad B) 256 256), (78, ς (subBase BA ((256 * i).toNat) bc 1) v.length (bc - ((256 * i).toNat)))] (by rw [F0]) ?_
   have x1 : In .u8 v := by rw [Z]; exact (hIbs.drop _).take _
   refine RunR.st (some 79) (.call { callee := .builtin .copy, args := #[.tmp 74, .tmp 78], argTypes := #[22, 22] }) (Step.copy_row hU 5 0 14 0 256 256 256 256 v.length (bc - ((256 * i).toNat)) (ad B) (ad B) (subBase BA ((256 * i).toNat) bc 1) (List.replicate 256 (0 : Int)) (ν .u8 BA bs) .u8 v (by kernel_rfl) (by kernel_rfl) (by kernel_rfl) (fun _ b h => h) (by kernel_rfl) (by kernel_rfl) (by kernel_rfl) (j0) (by rfl) (by omega) (by kernel_rfl) ?_)
   have y1 : (putl (List.replicate 256 (0 : Int)) 0 (v.take 256)).length = (List.replicate 256 (0 : Int)).length := putl_len (by simp only [List.length_take]; omega)
   refine RunR.nn ?_
   refine RunC.seq ?_
   refine RunC.regionU hU 12 [blk ei 87 (([pt fi] : List Value) ++ (([.map (some me)] : List Value) ++ (([ς Na nk s] : List Value) ++ (bls t ++ ([ς (subBase Sa ((need (bs.length : Int)).toNat) sc 1) u.length (sc - ((need (bs.length : Int)).toNat))] : List Value))))), blk fi 51 [pt wj, mv, ς NA F nc, η dd]] [5, 10] [10, 11] (bm 12 0) (by kernel_rfl) (by kernel_rfl) (by kernel_rfl) ?_
   refine RunU.sl hU 0 (bm 12 1) 80 (pt ei) ?_
   refine RunU.sl hU 1 (bm 12 3) 81 (pt ei) ?_
   refine RunU.sl hU 2 (bm 12 7) 82 (pt ei) ?_
   refine RunU.rd 3 (bm 12 15) 83 (.load 24 (.tmp 82)) (pt fi) [5, 10] (Reads.load_blk hU 0 ei (0) 87 (([pt fi] : List Value) ++ (([.map (some me)] : List Value) ++ (([ς Na nk s] : List Value) ++ (bls t ++ ([ς (subBase Sa ((need (bs.length : Int)).toNat) sc 1) u.length (sc - ((need (bs.length : Int)).toNat))] : List Value))))) (pt fi) (by kernel_rfl) (by kernel_rfl) (loadv_one (by kernel_rfl) (show Seg _ 0 _ from Seg.here _ _))) ?_
   refine RunU.sl hU 4 (bm 12 31) 84 (pt fi) ?_
   refine RunU.sl hU 5 (bm 12 63) 85 (pt fi) ?_
   refine RunU.rd 6 (bm 12 127) 86 (.load 40 (.tmp 85)) (pt wj) [5, 10] (Reads.load_blk hU 1 fi (0) 51 [pt wj, mv, ς NA F nc, η dd] (pt wj) (by kernel_rfl) (by kernel_rfl) (by kernel_rfl)) ?_
   refine RunU.sl hU 7 (bm 12 255) 87 (ι (a.getD (i).toNat 0)) ?_
   refine RunU.sl hU 9 (bm 12 767) 89 (ς (ad B) 256 256) ?_
   refine RunU.on (some 88) (.call { callee := .value (.func 23), args := #[.tmp 87], argTypes := #[3] }) 8 (bm 12 1023) [5, 10] (Step.cn 23 [ι (a.getD (i).toNat 0)] [] [κ 5 .u8 (ad B) 256 256 (putl (List.replicate 256 (0 : Int)) 0 (v.take 256)), κ 3 .i64 Na nk s ((N.set (a.getD (i).toNat 0).toNat 65535).set (a.getD (i - 1).toNat 0).toNat ((a.getD (i).toNat 0) + 1)), blk d 47 [ς A n c, ς Wl ml wl, ι ll, η dl], ξ Wl ml wl wsl, chd .u8 wsl, blk ei 87 (([pt fi] : List Value) ++ (([.map (some me)] : List Value) ++ (([ς Na nk s] : List Value) ++ (bls t ++ ([ς (subBase Sa ((need (bs.length : Int)).toNat) sc 1) u.length (sc - ((need (bs.length : Int)).toNat))] : List Value))))), blk q 63 [ι l, ι (bs.length : Int), ς g a.length k], κ 3 .i64 g a.length k a, mpf me (y.map feM) fc, rws .i64 G, blk fi 51 [pt wj, mv, ς NA F nc, η dd], blk wj 71 [pt d], κ 5 .u8 A n c ss, ν .i64 Sa sp, ν .u8 BA bs] (fl_place_spec (a.getD (i).toNat 0) (by omega)) [] ?_)
   rintro _ _ ⟨rfl, rfl⟩
   refine orL ?_
   refine RunU.on (some 90) (.call { callee := .value (.func 38), args := #[.tmp 86, .tmp 88, .tmp 89], argTypes := #[40, 3, 22] }) 10 (bm 12 2047) [] (Step.cl 38 [pt wj, ι (32 + (a.getD (i).toNat 0)), ς (ad B) 256 256] (blk wj 71 [pt d] :: δ d A n c ss Wl ml wl wsl ll dl []) [ν .u8 (ad B) (putl (List.replicate 256 (0 : Int)) 0 (v.take 256))] [κ 5 .u8 (ad B) 256 256 (putl (List.replicate 256 (0 : Int)) 0 (v.take 256)), κ 3 .i64 Na nk s ((N.set (a.getD (i).toNat 0).toNat 65535).set (a.getD (i - 1).toNat 0).toNat ((a.getD (i).toNat 0) + 1)), blk ei 87 (([pt fi] : List Value) ++ (([.map (some me)] : List Value) ++ (([ς Na nk s] : List Value) ++ (bls t ++ ([ς (subBase Sa ((need (bs.length : Int)).toNat) sc 1) u.length (sc - ((need (bs.length : Int)).toNat))] : List Value))))), blk q 63 [ι l, ι (bs.length : Int), ς g a.length k], κ 3 .i64 g a.length k a, mpf me (y.map feM) fc, rws .i64 G, blk fi 51 [pt wj, mv, ς NA F nc, η dd], ν .i64 Sa sp, ν .u8 BA bs] (wl_Write_spec wj d A n c ss Wl ml wl wsl ll dl (32 + (a.getD (i).toNat 0)) (ad B) 256 (putl (List.replicate 256 (0 : Int)) 0 (v.take 256)) 256 hss ‹_› ‹_› (fun h => hAs (by exact h)) ‹_› ‹_› ‹_› (by omega) ‹_› ‹_› (fun h => hWl (by exact h)) ‹_› (by (refine ⟨?_, ?_⟩ <;> omega)) (by exact In.putl (In.replicate _ _) (In.take ‹_› _)) (by omega) (by omega) ‹_›) [11, 2, 10, 2, 2] ((Lend.nil _).tells 0 (κ 5 .u8 (ad B) 256 256 (putl (List.replicate 256 (0 : Int)) 0 (v.take 256))) (ad B) (nums .u8 (putl (List.replicate 256 (0 : Int)) 0 (v.take 256))) (by kernel_rfl) (tells_row _ _ _ _ _ _)) ?_)
   rintro _ _ ⟨Y, T, b0, J, I, P, Q, rfl, rfl, o0, h1, V0, c1, a1, A0, p1⟩
   refine orR ?_
   refine RunU.sl hU 11 (bm 12 4095) 12 (ι Y) ?_
   refine RunU.ev [0, 1, 2, 7, 12, 45, 46, 47] [(0, pt ei), (1, .string nm), (2, ς BA bs.length bc), (7, pt q), (12, ι Y), (45, ς g a.length k), (46, ι (a.length : Int)), (47, ι i)] ?_
   refine RunU.dn ?_
   refine kseq_n ?_
   refine RunC.sr ?_
   refine RunR.sl hU [] 2 2 [0, 1, 2, 7, 12, 45, 46, 47, 92] [(0, pt ei), (1, .string nm), (2, ς BA bs.length bc), (7, pt q), (12, ι Y), (45, ς g a.length k), (46, ι (a.length : Int)), (47, ι i), (92, η (!decide (Y = 0)))] 2 ?_
   refine RunR.nn ?_
   refine RunC.condn (Y = 0) (by kernel_rfl) (fun P0 => ?_) (fun P0 => ?_)
   ·refine RunC.sr ?_
    refine RunR.sl hU [] 2 2 [0, 1, 2, 6, 7, 45, 46, 47] [(0, pt ei), (1, .string nm), (2, ς BA bs.length bc), (6, ι Y), (7, pt q), (45, ς g a.length k), (46, ι (a.length : Int)), (47, ι i)] 2 ?_
    refine RunR.nn ?_
    refine RunC.ret ?_
    refine kblock_r ?_
    refine kseq_r ?_
    refine kloop_r ?_
    refine kblock_r ?_
    refine kseq_r ?_
    refine kret_r [ι Y] [11, 11, 0, 0, 0, 0, 0] (rws .i64 G :: blk fi 51 [pt wj, mv, ς NA F nc, η dd] :: blk wj 71 [pt d] :: δ d A n c ss T b0 J I P Q []) ⟨rfl, trivial⟩ (by kernel_rfl) rfl (.inl ⟨Y, T, b0, J, I, P, Q, rfl, rfl, (by have hw_ := write_ok o0 ⟨by omega, by omega⟩; rw [chunk_is hi (by omega) Z rfl] at hw_; rw [← H, ← a0]; exact wrs_stop hwr (putW_get (by omega)) hw_ ‹_›), ‹_›, ‹_›, (by omega), ‹_›, ‹_›, ‹_›, ‹_›⟩)
   refine RunC.skip ?_
   refine kblock_n ?_
   refine kseq_n ?_
   refine RunC.region ?_
   refine RunR.sil hU [0] 2 2 [0, 1, 2, 7, 45, 46, 47] [(0, pt ei), (1, .string nm), (2, ς BA bs.length bc), (7, pt q), (45, ς g a.length k), (46, ι (a.length : Int)), (47, ι (i + 1))] ((-9223372036854775808 ≤ (i + 1) ∧ (i + 1) < 9223372036854775808) ∧ (True) ∧ True) rfl (by kernel_rfl) ⟨(by omega), trivial, trivial⟩ ?_
   refine RunR.dn ?_
   refine kloop_n _ [0, 1, 2, 7, 45, 46, 47] [6, 1, 2, 2, 3, 3, 3, 3, 3, 3, 0, 0, 1, 1] [(0, pt ei), (1, .string nm), (2, ς BA bs.length bc), (7, pt q), (45, ς g a.length k), (46, ι (a.length : Int)), (47, ι (i + 1))] [κ 3 .i64 Na nk s ((N.set (a.getD (i).toNat 0).toNat 65535).set (a.getD (i - 1).toNat 0).toNat ((a.getD (i).toNat 0) + 1)), blk d 47 [ς A n c, ς T b0 J, ι P, η Q], ξ T b0 J I, chd .u8 I, blk ei 87 (([pt fi] : List Value) ++ (([.map (some me)] : List Value) ++ (([ς Na nk s] : List Value) ++ (bls t ++ ([ς (subBase Sa ((need (bs.length : Int)).toNat) sc 1) u.length (sc - ((need (bs.length : Int)).toNat))] : List Value))))), blk q 63 [ι l, ι (bs.length : Int), ς g a.length k], κ 3 .i64 g a.length k a, mpf me (y.map feM) fc, rws .i64 G, blk fi 51 [pt wj, mv, ς NA F nc, η dd], blk wj 71 [pt d], κ 5 .u8 A n c ss, ν .i64 Sa sp, ν .u8 BA bs] (by kernel_rfl) (by kernel_rfl) ?_ ⟨(i + 1), ((N.set (a.getD (i).toNat 0).toNat 65535).set (a.getD (i - 1).toNat 0).toNat ((a.getD (i).toNat 0) + 1)), T, b0, J, I, P, Q, (by omega), ‹_›, (by exact chain_two hi t0 ‹_›), (by (rw [List.length_set, List.length_set]; exact m0)), (by have hw_ := write_ok o0 ⟨by omega, by omega⟩; rw [chunk_is hi (by omega) Z rfl] at hw_; rw [show (i + 1).toNat = i.toNat + 1 by omega]; exact wrs_step hwr (putW_get (by omega)) hw_ ‹_›), ‹_›, (by omega), ‹_›, ‹_›, (fun h => A0 (by exact h)), ‹_›, ‹_›, ‹_›, rfl, (by rfl), (by rfl)⟩
   show ((a.length - (i + 1)).toNat : Nat) < ((a.length - i).toNat : Nat)
   omega
  refine RunC.ksr ?_
  refine RunR.st (some 73) (.makeSlice 22 (.const (ι 256)) (.const (ι 256))) (Step.make_nums hU 5 1 .u8 .i64 .i64 (256) rfl rfl (by kernel_rfl) (by kernel_rfl) (by omega) (by omega) (by kernel_rfl) (fun E => ?_))
  have T0 : (List.replicate 256 (0 : Int)).length = 256 := List.length_replicate
  refine RunR.sl hU [] 1 2 [0, 1, 2, 7, 9, 10, 11, 45, 46, 47] [(0, pt ei), (1, .string nm), (2, ς BA bs.length bc), (7, pt q), (9, ι i), (10, ι (a.getD (i).toNat 0)), (11, ς (ad E) 256 256), (45, ς g a.length k), (46, ι (a.length : Int)), (47, ι i)] 1 ?_
  refine RunR.nx ?_
  refine RunR.sil hU [3] 5 5 [0, 1, 2, 7, 10, 11, 45, 46, 47, 74, 78] [(0, pt ei), (1, .string nm), (2, ς BA bs.length bc), (7, pt q), (10, ι (a.getD (i).toNat 0)), (11, ς (ad E) 256 256), (45, ς g a.length k), (46, ι (a.length : Int)), (47, ι i), (74, ς (ad E) 256 256), (78, ς (subBase BA ((256 * i).toNat) bc 1) (bs.length - ((256 * i).toNat)) (bc - ((256 * i).toNat)))] ((True) ∧ (True) ∧ (True) ∧ (-9223372036854775808 ≤ (256 * i) ∧ (256 * i) < 9223372036854775808) ∧ (0 ≤ (256 * i) ∧ (256 * i) ≤ (bs.length : Int)) ∧ True) rfl (by kernel_rfl) ⟨trivial, trivial, trivial, (by omega), (by omega), trivial⟩ ?_
  obtain ⟨x, c0⟩ : ∃ z : List Int, z = (bs.drop ((256 * i).toNat)).take (bs.length - ((256 * i).toNat)) := ⟨_, rfl⟩
  have I0 : x.length = bs.length - ((256 * i).toNat) := by rw [c0, List.length_take, List.length_drop]; omega
  have l0 : Tells (ν .u8 BA bs) (subBase BA ((256 * i).toNat) bc 1) (nums .u8 x) := by rw [c0]; exact tells_sub_nums (tells_vw _ _) _ _ _ (by omega) (by omega)
  have b1 : 0 < x.length → Option.isSome (subBase BA ((256 * i).toNat) bc 1) = true := fun h => part_some (H0 (by omega)) _ _ _
  refine RunR.ev [0, 1, 2, 7, 10, 11, 45, 46, 47, 74, 78] [(0, pt ei), (1, .string nm), (2, ς BA bs.length bc), (7, pt q), (10, ι (a.getD (i).toNat 0)), (11, ς (ad E) 256 256), (45, ς g a.length k), (46, ι (a.length : Int)), (47, ι i), (74, ς (ad E) 256 256), (78, ς (subBase BA ((256 * i).toNat) bc 1) (bs.length - ((256 * i).toNat)) (bc - ((256 * i).toNat)))] ?_
  refine RunR.enveq [(0, pt ei), (1, .string nm), (2, ς BA bs.length bc), (7, pt q), (10, ι (a.getD (i).toNat 0)), (11, ς (ad E) 256 256), (45, ς g a.length k), (46, ι (a.length : Int)), (47, ι i), (74, ς (ad E) 256 256), (78, ς (subBase BA ((256 * i).toNat) bc 1) x.length (bc - ((256 * i).toNat)))] (by rw [I0]) ?_
  have m1 : In .u8 x := by rw [c0]; exact (hIbs.drop _).take _
  refine RunR.st (some 79) (.call { callee := .builtin .copy, args := #[.tmp 74, .tmp 78], argTypes := #[22, 22] }) (Step.copy_row hU 5 0 14 0 256 256 256 256 x.length (bc - ((256 * i).toNat)) (ad E) (ad E) (subBase BA ((256 * i).toNat) bc 1) (List.replicate 256 (0 : Int)) (ν .u8 BA bs) .u8 x (by kernel_rfl) (by kernel_rfl) (by kernel_rfl) (fun _ b h => h) (by kernel_rfl) (by kernel_rfl) (by kernel_rfl) (l0) (by rfl) (by omega) (by kernel_rfl) ?_)
  have d1 : (putl (List.replicate 256 (0 : Int)) 0 (x.take 256)).length = (List.replicate 256 (0 : Int)).length := putl_len (by simp only [List.length_take]; omega)
  refine RunR.nn ?_
  refine RunC.seq ?_
  refine RunC.regionU hU 12 [blk ei 87 (([pt fi] : List Value) ++ (([.map (some me)] : List Value) ++ (([ς Na nk s] : List Value) ++ (bls t ++ ([ς (subBase Sa ((need (bs.length : Int)).toNat) sc 1) u.length (sc - ((need (bs.length : Int)).toNat))] : List Value))))), blk fi 51 [pt wj, mv, ς NA F nc, η dd]] [5, 10] [10, 11] (bm 12 0) (by kernel_rfl) (by kernel_rfl) (by kernel_rfl) ?_
  refine RunU.sl hU 0 (bm 12 1) 80 (pt ei) ?_
  refine RunU.sl hU 1 (bm 12 3) 81 (pt ei) ?_
  refine RunU.sl hU 2 (bm 12 7) 82 (pt ei) ?_
  refine RunU.rd 3 (bm 12 15) 83 (.load 24 (.tmp 82)) (pt fi) [5, 10] (Reads.load_blk hU 0 ei (0) 87 (([pt fi] : List Value) ++ (([.map (some me)] : List Value) ++ (([ς Na nk s] : List Value) ++ (bls t ++ ([ς (subBase Sa ((need (bs.length : Int)).toNat) sc 1) u.length (sc - ((need (bs.length : Int)).toNat))] : List Value))))) (pt fi) (by kernel_rfl) (by kernel_rfl) (loadv_one (by kernel_rfl) (show Seg _ 0 _ from Seg.here _ _))) ?_
  refine RunU.sl hU 4 (bm 12 31) 84 (pt fi) ?_
  refine RunU.sl hU 5 (bm 12 63) 85 (pt fi) ?_
  refine RunU.rd 6 (bm 12 127) 86 (.load 40 (.tmp 85)) (pt wj) [5, 10] (Reads.load_blk hU 1 fi (0) 51 [pt wj, mv, ς NA F nc, η dd] (pt wj) (by kernel_rfl) (by kernel_rfl) (by kernel_rfl)) ?_
  refine RunU.sl hU 7 (bm 12 255) 87 (ι (a.getD (i).toNat 0)) ?_
  refine RunU.sl hU 9 (bm 12 767) 89 (ς (ad E) 256 256) ?_
  refine RunU.on (some 88) (.call { callee := .value (.func 23), args := #[.tmp 87], argTypes := #[3] }) 8 (bm 12 1023) [5, 10] (Step.cn 23 [ι (a.getD (i).toNat 0)] [] [κ 5 .u8 (ad E) 256 256 (putl (List.replicate 256 (0 : Int)) 0 (x.take 256)), κ 3 .i64 Na nk s (N.set (a.getD (i).toNat 0).toNat 65535), blk d 47 [ς A n c, ς Wl ml wl, ι ll, η dl], ξ Wl ml wl wsl, chd .u8 wsl, blk ei 87 (([pt fi] : List Value) ++ (([.map (some me)] : List Value) ++ (([ς Na nk s] : List Value) ++ (bls t ++ ([ς (subBase Sa ((need (bs.length : Int)).toNat) sc 1) u.length (sc - ((need (bs.length : Int)).toNat))] : List Value))))), blk q 63 [ι l, ι (bs.length : Int), ς g a.length k], κ 3 .i64 g a.length k a, mpf me (y.map feM) fc, rws .i64 G, blk fi 51 [pt wj, mv, ς NA F nc, η dd], blk wj 71 [pt d], κ 5 .u8 A n c ss, ν .i64 Sa sp, ν .u8 BA bs] (fl_place_spec (a.getD (i).toNat 0) (by omega)) [] ?_)
  rintro _ _ ⟨rfl, rfl⟩
  refine orL ?_
  refine RunU.on (some 90) (.call { callee := .value (.func 38), args := #[.tmp 86, .tmp 88, .tmp 89], argTypes := #[40, 3, 22] }) 10 (bm 12 2047) [] (Step.cl 38 [pt wj, ι (32 + (a.getD (i).toNat 0)), ς (ad E) 256 256] (blk wj 71 [pt d] :: δ d A n c ss Wl ml wl wsl ll dl []) [ν .u8 (ad E) (putl (List.replicate 256 (0 : Int)) 0 (x.take 256))] [κ 5 .u8 (ad E) 256 256 (putl (List.replicate 256 (0 : Int)) 0 (x.take 256)), κ 3 .i64 Na nk s (N.set (a.getD (i).toNat 0).toNat 65535), blk ei 87 (([pt fi] : List Value) ++ (([.map (some me)] : List Value) ++ (([ς Na nk s] : List Value) ++ (bls t ++ ([ς (subBase Sa ((need (bs.length : Int)).toNat) sc 1) u.length (sc - ((need (bs.length : Int)).toNat))] : List Value))))), blk q 63 [ι l, ι (bs.length : Int), ς g a.length k], κ 3 .i64 g a.length k a, mpf me (y.map feM) fc, rws .i64 G, blk fi 51 [pt wj, mv, ς NA F nc, η dd], ν .i64 Sa sp, ν .u8 BA bs] (wl_Write_spec wj d A n c ss Wl ml wl wsl ll dl (32 + (a.getD (i).toNat 0)) (ad E) 256 (putl (List.replicate 256 (0 : Int)) 0 (x.take 256)) 256 hss ‹_› ‹_› (fun h => hAs (by exact h)) ‹_› ‹_› ‹_› (by omega) ‹_› ‹_› (fun h => hWl (by exact h)) ‹_› (by (refine ⟨?_, ?_⟩ <;> omega)) (by exact In.putl (In.replicate _ _) (In.take ‹_› _)) (by omega) (by omega) ‹_›) [11, 2, 10, 2, 2] ((Lend.nil _).tells 0 (κ 5 .u8 (ad E) 256 256 (putl (List.replicate 256 (0 : Int)) 0 (x.take 256))) (ad E) (nums .u8 (putl (List.replicate 256 (0 : Int)) 0 (x.take 256))) (by kernel_rfl) (tells_row _ _ _ _ _ _)) ?_)
  rintro _ _ ⟨X, V, d0, M, K, O, S, rfl, rfl, r0, t1, X0, u1, v1, C0, Z0⟩
  refine orR ?_
  refine RunU.sl hU 11 (bm 12 4095) 12 (ι X) ?_
  refine RunU.ev [0, 1, 2, 7, 12, 45, 46, 47] [(0, pt ei), (1, .string nm), (2, ς BA bs.length bc), (7, pt q), (12, ι X), (45, ς g a.length k), (46, ι (a.length : Int)), (47, ι i)] ?_
  refine RunU.dn ?_
  refine kseq_n ?_
  refine RunC.sr ?_
  refine RunR.sl hU [] 2 2 [0, 1, 2, 7, 12, 45, 46, 47, 92] [(0, pt ei), (1, .string nm), (2, ς BA bs.length bc), (7, pt q), (12, ι X), (45, ς g a.length k), (46, ι (a.length : Int)), (47, ι i), (92, η (!decide (X = 0)))] 2 ?_
  refine RunR.nn ?_
  refine RunC.condn (X = 0) (by kernel_rfl) (fun R0 => ?_) (fun R0 => ?_)
  ·refine RunC.sr ?_
   refine RunR.sl hU [] 2 2 [0, 1, 2, 6, 7, 45, 46, 47] [(0, pt ei), (1, .string nm), (2, ς BA bs.length bc), (6, ι X), (7, pt q), (45, ς g a.length k), (46, ι (a.length : Int)), (47, ι i)] 2 ?_
   refine RunR.nn ?_
   refine RunC.ret ?_
   refine kblock_r ?_
   refine kseq_r ?_
   refine kloop_r ?_
   refine kblock_r ?_
   refine kseq_r ?_
   refine kret_r [ι X] [11, 11, 0, 0, 0, 0, 0] (rws .i64 G :: blk fi 51 [pt wj, mv, ς NA F nc, η dd] :: blk wj 71 [pt d] :: δ d A n c ss V d0 M K O S []) ⟨rfl, trivial⟩ (by kernel_rfl) rfl (.inl ⟨X, V, d0, M, K, O, S, rfl, rfl, (by have hw_ := write_ok r0 ⟨by omega, by omega⟩; rw [chunk_is hi (by omega) c0 rfl] at hw_; rw [← H, ← a0]; exact wrs_stop hwr (putW_get (by omega)) hw_ ‹_›), ‹_›, ‹_›, (by omega), ‹_›, ‹_›, ‹_›, ‹_›⟩)
  refine RunC.skip ?_
  refine kblock_n ?_
  refine kseq_n ?_
  refine RunC.region ?_
  refine RunR.sil hU [0] 2 2 [0, 1, 2, 7, 45, 46, 47] [(0, pt ei), (1, .string nm), (2, ς BA bs.length bc), (7, pt q), (45, ς g a.length k), (46, ι (a.length : Int)), (47, ι (i + 1))] ((-9223372036854775808 ≤ (i + 1) ∧ (i + 1) < 9223372036854775808) ∧ (True) ∧ True) rfl (by kernel_rfl) ⟨(by omega), trivial, trivial⟩ ?_
  refine RunR.dn ?_
  refine kloop_n _ [0, 1, 2, 7, 45, 46, 47] [6, 1, 2, 2, 3, 3, 3, 3, 3, 3, 0, 0, 1, 1] [(0, pt ei), (1, .string nm), (2, ς BA bs.length bc), (7, pt q), (45, ς g a.length k), (46, ι (a.length : Int)), (47, ι (i + 1))] [κ 3 .i64 Na nk s (N.set (a.getD (i).toNat 0).toNat 65535), blk d 47 [ς A n c, ς V d0 M, ι O, η S], ξ V d0 M K, chd .u8 K, blk ei 87 (([pt fi] : List Value) ++ (([.map (some me)] : List Value) ++ (([ς Na nk s] : List Value) ++ (bls t ++ ([ς (subBase Sa ((need (bs.length : Int)).toNat) sc 1) u.length (sc - ((need (bs.length : Int)).toNat))] : List Value))))), blk q 63 [ι l, ι (bs.length : Int), ς g a.length k], κ 3 .i64 g a.length k a, mpf me (y.map feM) fc, rws .i64 G, blk fi 51 [pt wj, mv, ς NA F nc, η dd], blk wj 71 [pt d], κ 5 .u8 A n c ss, ν .i64 Sa sp, ν .u8 BA bs] (by kernel_rfl) (by kernel_rfl) ?_ ⟨(i + 1), (N.set (a.getD (i).toNat 0).toNat 65535), V, d0, M, K, O, S, (by omega), ‹_›, (by exact chain_one hi t0 ‹_›), (by (rw [List.length_set]; exact m0)), (by have hw_ := write_ok r0 ⟨by omega, by omega⟩; rw [chunk_is hi (by omega) c0 rfl] at hw_; rw [show (i + 1).toNat = i.toNat + 1 by omega]; exact wrs_step hwr (putW_get (by omega)) hw_ ‹_›), ‹_›, (by omega), ‹_›, ‹_›, (fun h => C0 (by exact h)), ‹_›, ‹_›, ‹_›, rfl, (by rfl), (by rfl)⟩
  show ((a.length - (i + 1)).toNat : Nat) < ((a.length - i).toNat : Nat)
  omega
 refine RunC.exit ?_
 refine kseq_e ?_
 refine kloop_e ?_
 refine kblock_e ?_
 refine kseq_n ?_
 refine RunC.seq ?_
 refine RunC.regionU hU 7 [blk q 63 [ι l, ι (bs.length : Int), ς g a.length k]] [5] [6] (bm 7 0) (by kernel_rfl) (by kernel_rfl) (by kernel_rfl) ?_
 refine RunU.sl hU 0 (bm 7 1) 95 (pt ei) ?_
 refine RunU.sl hU 1 (bm 7 3) 96 (pt q) ?_
 refine RunU.rd 2 (bm 7 7) 97 (.load 3 (.tmp 96)) (ι l) [5] (Reads.load_blk hU 0 q (0) 63 [ι l, ι (bs.length : Int), ς g a.length k] (ι l) (by kernel_rfl) (by kernel_rfl) (by kernel_rfl)) ?_
 refine RunU.sl hU 3 (bm 7 15) 98 (pt ei) ?_
 refine RunU.sl hU 4 (bm 7 31) 99 (.pointer (some ⟨ei, 3, none⟩)) ?_
 refine RunU.sil hU false 5 (bm 7 63) 100 (.pointer (some ⟨ei, 3 + (l).toNat * 1, none⟩)) (0 ≤ l ∧ l < (64 : Int)) (by kernel_rfl) (by omega) (by kernel_rfl) (by kernel_rfl) (fun _ _ _ h => h) ?_
 have z1 : (t.set ((l).toNat) true).length = t.length := List.length_set
 refine RunU.on none (.store 4 (.tmp 100) (.const (η true))) 6 (bm 7 127) [] (Step.store_seg hU 4 ei (3 + (l).toNat * 1) 87 (([pt fi] : List Value) ++ (([.map (some me)] : List Value) ++ (([ς Na nk s] : List Value) ++ (bls t ++ ([ς (subBase Sa ((need (bs.length : Int)).toNat) sc 1) u.length (sc - ((need (bs.length : Int)).toNat))] : List Value))))) (([pt fi] : List Value) ++ (([.map (some me)] : List Value) ++ (([ς Na nk s] : List Value) ++ (bls (t.set ((l).toNat) true) ++ ([ς (subBase Sa ((need (bs.length : Int)).toNat) sc 1) u.length (sc - ((need (bs.length : Int)).toNat))] : List Value))))) ([η true]) (η true) (by kernel_rfl) (by kernel_rfl) (by kernel_rfl) 1 (by kernel_rfl) (by kernel_rfl) (by rfl) (by kernel_rfl) ((Put.skip (n := 1) (o := (1 + (1 + ((l).toNat)))) rfl (Put.skip (n := 1) (o := (1 + ((l).toNat))) rfl (Put.skip (n := 1) (o := ((l).toNat)) rfl (Put.front _ (Put.nthb (i := (l).toNat) (by omega) rfl))))).at (by omega)) ?_)
 refine orR ?_
 refine RunU.ev [0, 1, 7] [(0, pt ei), (1, .string nm), (7, pt q)] ?_
 refine RunU.dn ?_
 refine kseq_n ?_
 refine RunC.seq ?_
 refine RunC.regionU hU 7 [blk ei 87 (([pt fi] : List Value) ++ (([.map (some me)] : List Value) ++ (([ς Na nk s] : List Value) ++ (bls (t.set ((l).toNat) true) ++ ([ς (subBase Sa ((need (bs.length : Int)).toNat) sc 1) u.length (sc - ((need (bs.length : Int)).toNat))] : List Value))))), blk q 63 [ι l, ι (bs.length : Int), ς g a.length k]] [0, 5] [6] (bm 7 0) (by kernel_rfl) (by kernel_rfl) (by kernel_rfl) ?_
 refine RunU.sl hU 0 (bm 7 1) 101 (pt ei) ?_
 refine RunU.sl hU 1 (bm 7 3) 102 (pt ei) ?_
 refine RunU.sl hU 2 (bm 7 7) 103 (.pointer (some ⟨ei, 1, none⟩)) ?_
 refine RunU.rd 3 (bm 7 15) 104 (.load 48 (.tmp 103)) (.map (some me)) [0, 5] (Reads.load_blk hU 0 ei (1) 87 (([pt fi] : List Value) ++ (([.map (some me)] : List Value) ++ (([ς Na nk s] : List Value) ++ (bls (t.set ((l).toNat) true) ++ ([ς (subBase Sa ((need (bs.length : Int)).toNat) sc 1) u.length (sc - ((need (bs.length : Int)).toNat))] : List Value))))) (.map (some me)) (by kernel_rfl) (by kernel_rfl) (loadv_one (by kernel_rfl) (show Seg _ 1 _ from Seg.skip (n := 1) (o := 0) rfl (Seg.here _ _)))) ?_
 refine RunU.sl hU 4 (bm 7 31) 105 (.string nm) ?_
 refine RunU.rd 5 (bm 7 63) 106 (.load 63 (.tmp 7)) (.agg #[ι l, ι (bs.length : Int), ς g a.length k]) [0, 5] (Reads.load_blk hU 1 q (0) 63 [ι l, ι (bs.length : Int), ς g a.length k] (.agg #[ι l, ι (bs.length : Int), ς g a.length k]) (by kernel_rfl) (by kernel_rfl) (by kernel_rfl)) ?_
 refine RunU.on none (.mapUpdate 48 (.tmp 104) (.tmp 105) (.tmp 106)) 6 (bm 7 127) [] (Step.updateFe hU 7 9 63 me fc y nm l (bs.length : Int) g k a (by kernel_rfl) (by kernel_rfl) (by kernel_rfl) (by kernel_rfl) (by kernel_rfl) (by kernel_rfl) (by assumption : FMOK y fc) ?_)
 refine orR ?_
 refine RunU.turn ([rws .i64 ((g, k, a) :: G), mpf me ((fput y fc ⟨nm, l, (bs.length : Int), g, k, a, 0⟩).map feM) (fclock y fc nm), blk ei 87 (([pt fi] : List Value) ++ (([.map (some me)] : List Value) ++ (([ς Na nk s] : List Value) ++ (bls (t.set ((l).toNat) true) ++ ([ς (subBase Sa ((need (bs.length : Int)).toNat) sc 1) u.length (sc - ((need (bs.length : Int)).toNat))] : List Value))))), κ 3 .i64 Na nk s N, blk d 47 [ς A n c, ς Wl ml wl, ι ll, η dl], ξ Wl ml wl wsl, chd .u8 wsl, blk q 63 [ι l, ι (bs.length : Int), ς g a.length k], blk fi 51 [pt wj, mv, ς NA F nc, η dd], blk wj 71 [pt d], κ 5 .u8 A n c ss, ν .i64 Sa sp, ν .u8 BA bs]) (fun _ _ w hs => SAT.rwsPush g k a rfl (tells_row _ _ _ _ _ _) (hs.pulls2 [7, 7] ([κ 3 .i64 g a.length k a, rws .i64 G, mpf me ((fput y fc ⟨nm, l, (bs.length : Int), g, k, a, 0⟩).map feM) (fclock y fc nm), blk ei 87 (([pt fi] : List Value) ++ (([.map (some me)] : List Value) ++ (([ς Na nk s] : List Value) ++ (bls (t.set ((l).toNat) true) ++ ([ς (subBase Sa ((need (bs.length : Int)).toNat) sc 1) u.length (sc - ((need (bs.length : Int)).toNat))] : List Value))))), κ 3 .i64 Na nk s N, blk d 47 [ς A n c, ς Wl ml wl, ι ll, η dl], ξ Wl ml wl wsl, chd .u8 wsl, blk q 63 [ι l, ι (bs.length : Int), ς g a.length k], blk fi 51 [pt wj, mv, ς NA F nc, η dd], blk wj 71 [pt d], κ 5 .u8 A n c ss, ν .i64 Sa sp, ν .u8 BA bs]) (by kernel_rfl))) ?_
 refine RunU.ev [] [] ?_
 refine RunU.dn ?_
 refine kseq_n ?_
 refine RunC.sr ?_
 refine RunR.sl hU [] 1 1 [6] [(6, ι 0)] 1 ?_
 refine RunR.nn ?_
 refine RunC.ret ?_
 refine kret_r [ι 0] [2, 1, 1, 0, 4, 4, 0, 3, 0, 0] (blk ei 87 (([pt fi] : List Value) ++ (([.map (some me)] : List Value) ++ (([ς Na nk s] : List Value) ++ (bls (t.set ((l).toNat) true) ++ ([ς (subBase Sa ((need (bs.length : Int)).toNat) sc 1) u.length (sc - ((need (bs.length : Int)).toNat))] : List Value))))) :: mpf me ((fput y fc ⟨nm, l, (bs.length : Int), g, k, a, 0⟩).map feM) (fclock y fc nm) :: κ 3 .i64 Na nk s N :: rws .i64 ((g, k, a) :: G) :: blk fi 51 [pt wj, mv, ς NA F nc, η dd] :: blk wj 71 [pt d] :: δ d A n c ss Wl ml wl wsl ll dl []) ⟨rfl, trivial⟩ (by kernel_rfl) rfl (.inr ⟨Wl, ml, wl, wsl, ll, dl, (fput y fc ⟨nm, l, (bs.length : Int), g, k, a, 0⟩), (fclock y fc nm), N, (t.set ((l).toNat) true), (subBase Sa ((need (bs.length : Int)).toNat) sc 1), u.length, (sc - ((need (bs.length : Int)).toNat)), ((g, k, a) :: G), l, g, k, a, rfl, rfl, (by exact wrs_end hwr (by rw [putW_len]; omega)), ‹_›, (by omega), ‹_›, ‹_›, ‹_›, ‹_›, (by exact a0.trans H), (by rw [i0]), (by rw [i0]), (by rw [t0]; congr 1; omega), ‹_›, (by rw [u0]), (by rw [List.length_set]; assumption), (by have hx_ := n0; rw [u0] at hx_; exact free_slot hx_ hfr), (by rfl), ‹_›, ‹_›, (by omega), (by omega), (by intro f_ hf_; have h_ := tells_sub_nums hf_ (need (bs.length : Int)).toNat sc (sn - (need (bs.length : Int)).toNat) (by omega) (by omega); rwa [List.take_of_length_le (by rw [List.length_drop]; omega)] at h_)⟩)
end Go.Proofs.Ytlibhidhfbecbaa.LFileOne
