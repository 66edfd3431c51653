import Derived.Test.YtlibhidhfbecbaaOnePure
import Derived.Test.YtlibhidhfbecbaaProg
import Derived.Test.YtlibhidhfbecbaaY1
namespace Go.Proofs.Ytlibhidhfbecbaa.LFileOne
open Go Go.Proofs.Ytlibhidhfbecbaa.SL Go.Proofs.Ytlibhidhfbecbaa.SL.W Go.Proofs.Ytlibhidhfbecbaa.SL.D Go.Proofs.Ytlibhidhfbecbaa.SL.I Go.Proofs.Ytlibhidhfbecbaa.XT
set_option linter.unusedVariables false
set_option linter.unusedSimpArgs false
set_option maxRecDepth 100000
set_option maxHeartbeats 40000000
theorem fl_Open_spec (wj : Nat) (d : Nat) (A : Option Addr) (n : Nat) (c : Nat) (ss : List Int) (Wa : Option Addr) (m : Nat) (wc : Nat) (ws : List Ch) (lf : Int) (dn : Bool) (hss : In .u8 ss) (hnl : ss.length = n) (hnc : n ≤ c) (hAs : 0 < n → Option.isSome A = true) (z0 : n % 256 = 0) (hnb : n ≤ 557056) (hml : ws.length = m) (hmb : m ≤ 800000) (hok : ChOK .u8 ws) (hwk : WOK n ws) (hWs : 0 < m → Option.isSome Wa = true) (s0 : 256 * 43 ≤ n) :
 CallsS Try.prog 13 [pt wj] (blk wj 71 [pt d] :: δ d A n c ss Wa m wc ws lf dn []) (fun r D => (r = .tuple #[.pointer none, ι 1] ∧ D = (blk wj 71 [pt d] :: δ d A n c ss Wa m wc ws lf dn []) ∧ (datN n < 1)) ∨ (r = .tuple #[.pointer none, ι 8] ∧ D = (blk wj 71 [pt d] :: δ d A n c ss Wa m wc ws lf dn []) ∧ (1 ≤ datN n) ∧ (∀ C, ¬ OpenOK ss (dat ws) n C)) ∨ (∃ (fi : Nat) (mp : Nat) (Fs : List Fe) (fc : Nat) (G : List Ro) (NA : Option Addr) (nc : Nat) (ns : List Int), r = .tuple #[pt fi, ι 0] ∧ D = (blk fi 51 [pt wj, .map (some mp), ς NA ((datN n).toNat) nc, η false] :: mpf mp (Fs.map feM) fc :: κ 3 .i64 NA ((datN n).toNat) nc ns :: rws .i64 G :: blk wj 71 [pt d] :: δ d A n c ss Wa m wc ws lf dn []) ∧ (1 ≤ datN n) ∧ (OpenOK ss (dat ws) n (fcon Fs)) ∧ (FeOK Fs) ∧ (FMOK Fs fc) ∧ (FeIn Fs G) ∧ (FeBl Fs (datN n)) ∧ (ns = nextL ss (dat ws) (datN n).toNat) ∧ (ns.length = (datN n).toNat) ∧ (0 < (datN n).toNat → Option.isSome NA = true) ∧ ((datN n).toNat ≤ nc))) := by
 refine CallsS.enter hU Try.f13 _ [.tmp 2, .tmp 3] 89 Try.func13 rfl (by decide) rfl rfl (by kernel_rfl) fun w0 W => ?_
 have hdb := datN_bd n
 refine RunC.sr ?_
 refine RunR.sl hU [] 2 2 [0, 2, 3] [(0, pt wj), (2, .pointer none), (3, ι 0)] 2 ?_
 refine RunR.nn ?_
 refine RunC.seq ?_
 refine RunC.sr ?_
 refine RunR.sl hU [] 1 1 [0, 2, 3, 14] [(0, pt wj), (2, .pointer none), (3, ι 0), (14, pt wj)] 1 ?_
 refine RunR.st (some 15) (.call { callee := .value (.func 30), args := #[.tmp 14], argTypes := #[40] }) (Step.cn 30 [pt wj] [blk wj 71 [pt d], blk d 47 [ς A n c, ς Wa m wc, ι lf, η dn]] [κ 5 .u8 A n c ss, ξ Wa m wc ws, chd .u8 ws] (fl_data_spec wj d A n c Wa m wc lf dn ‹_› ‹_› (by omega)) [0, 0] ?_)
 rintro _ _ ⟨rfl, rfl⟩
 refine RunR.sl hU [] 1 3 [0, 2, 3, 16] [(0, pt wj), (2, .pointer none), (3, ι 0), (16, η (decide ((datN n) < 1)))] 1 ?_
 refine RunR.nn ?_
 refine RunC.condp ((datN n) < 1) (by kernel_rfl) (fun h1 => ?_) (fun h1 => ?_)
 ·refine RunC.sr ?_
  refine RunR.sl hU [] 2 2 [0, 2, 3] [(0, pt wj), (2, .pointer none), (3, ι 1)] 2 ?_
  refine RunR.nn ?_
  refine RunC.ret ?_
  refine kseq_r ?_
  refine kret_r [.pointer none, ι 1] [0, 0, 0, 0, 0] (blk wj 71 [pt d] :: δ d A n c ss Wa m wc ws lf dn []) ⟨rfl, rfl, trivial⟩ (by kernel_rfl) rfl (.inl ⟨rfl, rfl, (by omega)⟩)
 refine RunC.ksr ?_
 refine RunR.sl hU [] 1 1 [0, 2, 3, 17] [(0, pt wj), (2, .pointer none), (3, ι 0), (17, pt wj)] 1 ?_
 refine RunR.st (some 18) (.makeMap 48 none) (Step.newMap (by kernel_rfl) (fun y => ?_))
 refine RunR.sl hU [] 1 3 [0, 2, 3, 17, 18, 19] [(0, pt wj), (2, .pointer none), (3, ι 0), (17, pt wj), (18, .map (some y)), (19, pt wj)] 1 ?_
 refine RunR.st (some 20) (.call { callee := .value (.func 30), args := #[.tmp 19], argTypes := #[40] }) (Step.cn 30 [pt wj] [blk wj 71 [pt d], blk d 47 [ς A n c, ς Wa m wc, ι lf, η dn]] [mpf y (([] : List Fe).map feM) 0, κ 5 .u8 A n c ss, ξ Wa m wc ws, chd .u8 ws] (fl_data_spec wj d A n c Wa m wc lf dn ‹_› ‹_› (by omega)) [1, 1] ?_)
 rintro _ _ ⟨rfl, rfl⟩
 refine RunR.st (some 21) (.makeSlice 49 (.tmp 20) (.tmp 20)) (Step.make_nums hU 3 8 .i64 .i64 .i64 (datN n) rfl rfl (by kernel_rfl) (by kernel_rfl) (by omega) (by omega) (by kernel_rfl) (fun q => ?_))
 have v0 : (List.replicate ((datN n).toNat) (0 : Int)).length = (datN n).toNat := List.length_replicate
 refine RunR.sl hU [] 1 6 [0, 2, 3, 22] [(0, pt wj), (2, .pointer none), (3, ι 0), (22, .agg #[pt wj, .map (some y), ς (ad q) ((datN n).toNat) ((datN n).toNat), η false])] 1 ?_
 refine RunR.st (some 23) (.box 51 (.tmp 22)) (Step.box (.agg #[pt wj, .map (some y), ς (ad q) ((datN n).toNat) ((datN n).toNat), η false]) (by kernel_rfl) (by kernel_rfl) (fun g => ?_))
 refine RunR.sl hU [] 1 8 [0, 2, 3, 4] [(0, pt wj), (2, .pointer none), (3, ι 0), (4, pt g)] 1 ?_
 refine RunR.nx ?_
 refine RunR.sl hU [] 1 1 [0, 2, 3, 4, 24] [(0, pt wj), (2, .pointer none), (3, ι 0), (4, pt g), (24, pt g)] 1 ?_
 refine RunR.st (some 25) (.call { callee := .value (.func 31), args := #[.tmp 24], argTypes := #[24] }) (Step.cn 31 [pt g] (blk g 51 [pt wj, .map (some y), ς (ad q) ((datN n).toNat) ((datN n).toNat), η false] :: κ 3 .i64 (ad q) ((datN n).toNat) ((datN n).toNat) (List.replicate ((datN n).toNat) (0 : Int)) :: blk wj 71 [pt d] :: δ d A n c ss Wa m wc ws lf dn []) [mpf y (([] : List Fe).map feM) 0] (fl_load_spec g (.map (some y)) false (ad q) ((datN n).toNat) ((datN n).toNat) (List.replicate ((datN n).toNat) (0 : Int)) wj d A n c ss Wa m wc ws lf dn (by (simp; done)) ‹_› (by omega) (fun _ => rfl) (by omega) hss ‹_› ‹_› (fun h => hAs (by exact h)) ‹_› ‹_› ‹_› ‹_› ‹_› ‹_› (fun h => hWs (by exact h))) [0, 0, 0, 0, 1, 1, 1] ?_)
 rintro _ _ ⟨x, rfl, rfl, O, t0⟩
 refine RunR.nx ?_
 refine RunR.sl hU [] 3 3 [0, 2, 3, 4, 28] [(0, pt wj), (2, .pointer none), (3, ι 0), (4, pt g), (28, .pointer (some ⟨g, 2, none⟩))] 3 ?_
 refine RunR.st (some 29) (.load 49 (.tmp 28)) (Step.load_blk hU 0 g (2) 51 [pt wj, .map (some y), ς (ad q) ((datN n).toNat) ((datN n).toNat), η false] (ς (ad q) ((datN n).toNat) ((datN n).toNat)) (by kernel_rfl) (by kernel_rfl) (by kernel_rfl) (by kernel_rfl) ?_)
 refine RunR.sl hU [] 1 5 [0, 2, 3, 4, 30] [(0, pt wj), (2, .pointer none), (3, ι 0), (4, pt g), (30, ι ((((datN n).toNat) : Nat) : Int))] 1 ?_
 refine RunR.st (some 31) (.makeSlice 78 (.tmp 30) (.tmp 30)) (Step.make_bls hU 4 1 .i64 .i64 (((((datN n).toNat) : Nat) : Int)) (by kernel_rfl) (by kernel_rfl) (by kernel_rfl) (by kernel_rfl) (by omega) (by omega) (by kernel_rfl) (fun p => ?_))
 have q0 : (List.replicate ((datN n).toNat) false).length = (datN n).toNat := List.length_replicate
 refine RunR.sl hU [] 1 7 [0, 2, 3, 4, 5] [(0, pt wj), (2, .pointer none), (3, ι 0), (4, pt g), (5, ς (ad p) ((datN n).toNat) ((datN n).toNat))] 1 ?_
 refine RunR.nn ?_
 refine RunC.seq ?_
 refine RunC.sr ?_
 refine RunR.sl hU [] 1 1 [0, 2, 3, 4, 5, 32] [(0, pt wj), (2, .pointer none), (3, ι 0), (4, pt g), (5, ς (ad p) ((datN n).toNat) ((datN n).toNat)), (32, ι 0)] 1 ?_
 refine RunR.nn ?_
 refine RunC.block ?_
 refine RunC.turn ((rws .i64 ([] : List Ro) :: row 4 1 (ς (ad p) ((datN n).toNat) ((datN n).toNat)) ((datN n).toNat) (bls (List.replicate ((datN n).toNat) false)) :: blk g 51 [pt wj, .map (some y), ς (ad q) ((datN n).toNat) ((datN n).toNat), η false] :: κ 3 .i64 (ad q) ((datN n).toNat) ((datN n).toNat) x :: blk wj 71 [pt d] :: δ d A n c ss Wa m wc ws lf dn [mpf y (([] : List Fe).map feM) 0])) (fun _ _ w hs => hs.rws0 .i64) ?_
 refine RunC.env [0, 4, 5, 32] [(0, pt wj), (4, pt g), (5, ς (ad p) ((datN n).toNat) ((datN n).toNat)), (32, ι 0)] (by kernel_rfl) ?_
 refine RunC.only [9, 0, 0, 0, 0, 0, 0, 0, 0, 0] (mpf y (([] : List Fe).map feM) 0 :: rws .i64 ([] : List Ro) :: row 4 1 (ς (ad p) ((datN n).toNat) ((datN n).toNat)) ((datN n).toNat) (bls (List.replicate ((datN n).toNat) false)) :: blk g 51 [pt wj, .map (some y), ς (ad q) ((datN n).toNat) ((datN n).toNat), η false] :: κ 3 .i64 (ad q) ((datN n).toNat) ((datN n).toNat) x :: blk wj 71 [pt d] :: δ d A n c ss Wa m wc ws lf dn []) (by kernel_rfl) ?_
 refine RunC.loop (σ := Nat) (fun n_ t_ D_ => ∃ (i : Int) (Fs : List Fe) (fc : Nat) (G : List Ro) (H : List Bool), (0 ≤ i) ∧ (i ≤ 64) ∧ (openS ss (dat ws) (nextL ss (dat ws) (datN n).toNat) i.toNat = some (fcon Fs, H)) ∧ (H.length = (datN n).toNat) ∧ (FeOK Fs) ∧ (FMOK Fs fc) ∧ (FeIn Fs G) ∧ (FeBl Fs (datN n)) ∧ n_ = ((64 - i).toNat : Nat) ∧ t_ = [(0, pt wj), (4, pt g), (5, ς (ad p) ((datN n).toNat) ((datN n).toNat)), (32, ι i)] ∧ D_ = (mpf y (Fs.map feM) fc :: rws .i64 G :: row 4 1 (ς (ad p) ((datN n).toNat) ((datN n).toNat)) ((datN n).toNat) (bls H) :: blk g 51 [pt wj, .map (some y), ς (ad q) ((datN n).toNat) ((datN n).toNat), η false] :: κ 3 .i64 (ad q) ((datN n).toNat) ((datN n).toNat) x :: blk wj 71 [pt d] :: δ d A n c ss Wa m wc ws lf dn [])) id _ ⟨0, ([] : List Fe), 0, ([] : List Ro), (List.replicate ((datN n).toNat) false), (by omega), (by omega), (by rw [show (0 : Int).toNat = 0 from rfl, openS, nextL_len]; rfl), ‹_›, (by exact FeOK.nil), (by exact FMOK.nil), (by exact FeIn.nil _), (by exact FeBl.nil _), rfl, rfl, rfl⟩ ?_
 rintro n_ _ _ ⟨i, Fs, fc, G, H, hi, y0, hO, hu, hFe, hFm, hFi, hFb, rfl, rfl, rfl⟩
 refine RunC.sr ?_
 refine RunR.sl hU [] 1 1 [0, 4, 5, 32, 33] [(0, pt wj), (4, pt g), (5, ς (ad p) ((datN n).toNat) ((datN n).toNat)), (32, ι i), (33, η (decide (i < 64)))] 1 ?_
 refine RunR.nn ?_
 refine RunC.seq ?_
 refine RunC.condp (i < 64) (by kernel_rfl) (fun h0 => ?_) (fun h0 => ?_)
 ·refine RunC.ks ?_
  refine RunC.seq ?_
  refine RunC.block ?_
  refine RunC.sr ?_
  refine RunR.sl hU [] 2 2 [0, 4, 5, 6, 32] [(0, pt wj), (4, pt g), (5, ς (ad p) ((datN n).toNat) ((datN n).toNat)), (6, ι i), (32, ι i)] 2 ?_
  refine RunR.nx ?_
  refine RunR.sil hU [2] 3 3 [0, 4, 5, 6, 32, 36, 38] [(0, pt wj), (4, pt g), (5, ς (ad p) ((datN n).toNat) ((datN n).toNat)), (6, ι i), (32, ι i), (36, pt wj), (38, ι (i / (4 : Int)))] ((True) ∧ (True) ∧ (0 ≤ i ∧ 0 < (4 : Int) ∧ -9223372036854775808 ≤ (i / (4 : Int)) ∧ (i / (4 : Int)) < 9223372036854775808) ∧ True) rfl (by kernel_rfl) ⟨trivial, trivial, (by omega), trivial⟩ ?_
  refine RunR.st (some 39) (.call { callee := .value (.func 22), args := #[.tmp 36, .tmp 38], argTypes := #[40, 3] }) (Step.cn 22 [pt wj, ι (i / (4 : Int))] (blk wj 71 [pt d] :: δ d A n c ss Wa m wc ws lf dn []) [mpf y (Fs.map feM) fc, rws .i64 G, row 4 1 (ς (ad p) ((datN n).toNat) ((datN n).toNat)) ((datN n).toNat) (bls H), blk g 51 [pt wj, .map (some y), ς (ad q) ((datN n).toNat) ((datN n).toNat), η false], κ 3 .i64 (ad q) ((datN n).toNat) ((datN n).toNat) x] (wl_Read_spec wj d A n c ss Wa m wc ws lf dn (i / (4 : Int)) hss ‹_› ‹_› (fun h => hAs (by exact h)) ‹_› ‹_› ‹_› (by omega) ‹_› ‹_› (fun h => hWs (by exact h)) (by (refine ⟨?_, ?_⟩ <;> omega))) [5, 5, 5, 5, 5] ?_)
  rintro _ _ ⟨e, a, f, u0, rfl, rfl, X, Y, l0, S⟩
  rcases X with ⟨N, f0, e0, c0⟩ | ⟨N, _⟩; rotate_left; exact absurd (show there n _ from ⟨by omega, by omega⟩) N
  refine RunR.sl hU [] 5 9 [0, 4, 5, 6, 7, 32] [(0, pt wj), (4, pt g), (5, ς (ad p) ((datN n).toNat) ((datN n).toNat)), (6, ι i), (7, ς e f.length a), (32, ι i)] 5 ?_
  refine RunR.nx ?_
  refine RunR.sil hU [2, 3] 5 5 [0, 4, 5, 6, 7, 32, 46] [(0, pt wj), (4, pt g), (5, ς (ad p) ((datN n).toNat) ((datN n).toNat)), (6, ι i), (7, ς e f.length a), (32, ι i), (46, ς (subBase e ((64 * (i % (4 : Int))).toNat) a 1) (f.length - ((64 * (i % (4 : Int))).toNat)) (a - ((64 * (i % (4 : Int))).toNat)))] ((True) ∧ (True) ∧ (0 ≤ i ∧ 0 < (4 : Int)) ∧ (-9223372036854775808 ≤ (64 * (i % (4 : Int))) ∧ (64 * (i % (4 : Int))) < 9223372036854775808) ∧ (0 ≤ (64 * (i % (4 : Int))) ∧ (64 * (i % (4 : Int))) ≤ (f.length : Int)) ∧ True) rfl (by kernel_rfl) ⟨trivial, trivial, (by omega), (by omega), (by omega), trivial⟩ ?_
  obtain ⟨B, F⟩ : ∃ z : List Int, z = (f.drop ((64 * (i % (4 : Int))).toNat)).take (f.length - ((64 * (i % (4 : Int))).toNat)) := ⟨_, rfl⟩
  have a0 : B.length = f.length - ((64 * (i % (4 : Int))).toNat) := by rw [F, List.length_take, List.length_drop]; omega
  have L : Tells (κ 5 .u8 e f.length a f) (subBase e ((64 * (i % (4 : Int))).toNat) a 1) (nums .u8 B) := by rw [F]; exact tells_sub_nums (tells_row _ _ _ _ _ _) _ _ _ (by omega) (by omega)
  have T : 0 < B.length → Option.isSome (subBase e ((64 * (i % (4 : Int))).toNat) a 1) = true := fun h => part_some (S (by omega)) _ _ _
  refine RunR.ev [0, 4, 5, 6, 7, 32, 46] [(0, pt wj), (4, pt g), (5, ς (ad p) ((datN n).toNat) ((datN n).toNat)), (6, ι i), (7, ς e f.length a), (32, ι i), (46, ς (subBase e ((64 * (i % (4 : Int))).toNat) a 1) (f.length - ((64 * (i % (4 : Int))).toNat)) (a - ((64 * (i % (4 : Int))).toNat)))] ?_
  refine RunR.enveq [(0, pt wj), (4, pt g), (5, ς (ad p) ((datN n).toNat) ((datN n).toNat)), (6, ι i), (7, ς e f.length a), (32, ι i), (46, ς (subBase e ((64 * (i % (4 : Int))).toNat) a 1) B.length (a - ((64 * (i % (4 : Int))).toNat)))] (by rw [a0]) ?_
  have R : In .u8 B := by rw [F]; exact (Y.drop _).take _
  refine RunR.sil hU [] 1 6 [0, 4, 5, 6, 7, 32, 47] [(0, pt wj), (4, pt g), (5, ς (ad p) ((datN n).toNat) ((datN n).toNat)), (6, ι i), (7, ς e f.length a), (32, ι i), (47, ς (subBase e ((64 * (i % (4 : Int))).toNat) a 1) 64 (a - ((64 * (i % (4 : Int))).toNat)))] ((0 ≤ (64 : Int) ∧ (64 : Int) ≤ ((a - ((64 * (i % (4 : Int))).toNat) : Nat) : Int)) ∧ True) rfl (by kernel_rfl) ⟨(by omega), trivial⟩ ?_
  obtain ⟨v, E⟩ : ∃ z : List Int, z = B.take 64 := ⟨_, rfl⟩
  have V : v.length = 64 := by rw [E, List.length_take]; omega
  have P : Tells (κ 5 .u8 e f.length a f) (subBase e ((64 * (i % (4 : Int))).toNat) a 1) (nums .u8 v) := by rw [E]; exact tells_take_nums (L) _
  refine RunR.ev [0, 4, 5, 6, 7, 32, 47] [(0, pt wj), (4, pt g), (5, ς (ad p) ((datN n).toNat) ((datN n).toNat)), (6, ι i), (7, ς e f.length a), (32, ι i), (47, ς (subBase e ((64 * (i % (4 : Int))).toNat) a 1) 64 (a - ((64 * (i % (4 : Int))).toNat)))] ?_
  refine RunR.enveq [(0, pt wj), (4, pt g), (5, ς (ad p) ((datN n).toNat) ((datN n).toNat)), (6, ι i), (7, ς e f.length a), (32, ι i), (47, ς (subBase e ((64 * (i % (4 : Int))).toNat) a 1) v.length (a - ((64 * (i % (4 : Int))).toNat)))] (by rw [V]) ?_
  have Z : In .u8 v := by rw [E]; exact R.take _
  refine RunR.sl hU [] 1 7 [0, 4, 5, 6, 7, 32] [(0, pt wj), (4, pt g), (5, ς (ad p) ((datN n).toNat) ((datN n).toNat)), (6, ι i), (7, ς (subBase e ((64 * (i % (4 : Int))).toNat) a 1) v.length (a - ((64 * (i % (4 : Int))).toNat))), (32, ι i)] 1 ?_
  refine RunR.nn ?_
  refine RunC.seq ?_
  refine RunC.sr ?_
  refine RunR.sil hU [] 2 2 [0, 4, 5, 6, 7, 32, 49] [(0, pt wj), (4, pt g), (5, ς (ad p) ((datN n).toNat) ((datN n).toNat)), (6, ι i), (7, ς (subBase e ((64 * (i % (4 : Int))).toNat) a 1) v.length (a - ((64 * (i % (4 : Int))).toNat))), (32, ι i), (49, .pointer (elemAt (subBase e ((64 * (i % (4 : Int))).toNat) a 1) 0 1))] ((True) ∧ ((0 ≤ (0 : Int) ∧ (0 : Int) < (v.length : Int)) ∧ Option.isSome (subBase e ((64 * (i % (4 : Int))).toNat) a 1) = true) ∧ True) rfl (by kernel_rfl) ⟨trivial, ⟨by omega, T (by omega)⟩, trivial⟩ ?_
  refine RunR.st (some 50) (.load 5 (.tmp 49)) (Step.load_num hU 0 (κ 5 .u8 e f.length a f) (subBase e ((64 * (i % (4 : Int))).toNat) a 1) 0 .u8 B rfl (by kernel_rfl) (by kernel_rfl) (L) (by kernel_rfl) (by omega) ?_)
  have n0 : 0 ≤ B.getD ((0 : Int).toNat) 0 ∧ B.getD ((0 : Int).toNat) 0 < 256 := R.at_ _
  refine RunR.sl hU [] 1 4 [0, 4, 5, 6, 7, 32, 51] [(0, pt wj), (4, pt g), (5, ς (ad p) ((datN n).toNat) ((datN n).toNat)), (6, ι i), (7, ς (subBase e ((64 * (i % (4 : Int))).toNat) a 1) v.length (a - ((64 * (i % (4 : Int))).toNat))), (32, ι i), (51, η (decide ((B.getD (0 : Int).toNat 0) = 0)))] 1 ?_
  refine RunR.nn ?_
  refine RunC.condp ((B.getD (0 : Int).toNat 0) = 0) (by kernel_rfl) (fun d0 => ?_) (fun d0 => ?_)
  ·refine RunC.exit ?_
   refine kseq_e ?_
   refine kblock_e ?_
   refine kseq_n ?_
   refine RunC.region ?_
   refine RunR.sil hU [0] 2 2 [0, 4, 5, 32] [(0, pt wj), (4, pt g), (5, ς (ad p) ((datN n).toNat) ((datN n).toNat)), (32, ι (i + 1))] ((-9223372036854775808 ≤ (i + 1) ∧ (i + 1) < 9223372036854775808) ∧ (True) ∧ True) rfl (by kernel_rfl) ⟨(by omega), trivial, trivial⟩ ?_
   refine RunR.dn ?_
   refine kloop_n _ [0, 4, 5, 32] [6, 6, 6, 6, 6, 1, 1, 1, 1, 1] [(0, pt wj), (4, pt g), (5, ς (ad p) ((datN n).toNat) ((datN n).toNat)), (32, ι (i + 1))] (mpf y (Fs.map feM) fc :: rws .i64 G :: row 4 1 (ς (ad p) ((datN n).toNat) ((datN n).toNat)) ((datN n).toNat) (bls H) :: blk g 51 [pt wj, .map (some y), ς (ad q) ((datN n).toNat) ((datN n).toNat), η false] :: κ 3 .i64 (ad q) ((datN n).toNat) ((datN n).toNat) x :: blk wj 71 [pt d] :: δ d A n c ss Wa m wc ws lf dn []) (by kernel_rfl) (by kernel_rfl) ?_ ⟨(i + 1), Fs, fc, G, H, (by omega), ‹_›, (by exact open_skip hi hO (ent_is hi ‹_› ‹_› F E) ((ent0 E).trans ‹_›)), ‹_›, ‹_›, ‹_›, ‹_›, ‹_›, rfl, (by rfl), (by rfl)⟩
   show ((64 - (i + 1)).toNat : Nat) < ((64 - i).toNat : Nat)
   omega
  refine RunC.ksr ?_
  refine RunR.sl hU [] 4 4 [0, 4, 5, 32, 53, 54, 55, 56] [(0, pt wj), (4, pt g), (5, ς (ad p) ((datN n).toNat) ((datN n).toNat)), (32, ι i), (53, pt g), (54, ς (subBase e ((64 * (i % (4 : Int))).toNat) a 1) v.length (a - ((64 * (i % (4 : Int))).toNat))), (55, ι i), (56, ς (ad p) ((datN n).toNat) ((datN n).toNat))] 4 ?_
  refine RunR.st (some 57) (.call { callee := .value (.func 32), args := #[.tmp 53, .tmp 54, .tmp 55, .tmp 56], argTypes := #[24, 22, 3, 78] }) (Step.cl 32 [pt g, ς (subBase e ((64 * (i % (4 : Int))).toNat) a 1) v.length (a - ((64 * (i % (4 : Int))).toNat)), ι i, ς (ad p) ((datN n).toNat) ((datN n).toNat)] (ζ g wj y Fs fc (ad q) ((datN n).toNat) ((datN n).toNat) x false [row 4 1 (ς (ad p) ((datN n).toNat) ((datN n).toNat)) ((datN n).toNat) (bls H)]) [ν .u8 (subBase e ((64 * (i % (4 : Int))).toNat) a 1) v] (κ 5 .u8 e f.length a f :: blk wj 71 [pt d] :: δ d A n c ss Wa m wc ws lf dn [rws .i64 G]) (fl_slot_spec g wj false y Fs fc (ad q) ((datN n).toNat) ((datN n).toNat) x (ad p) ((datN n).toNat) H (subBase e ((64 * (i % (4 : Int))).toNat) a 1) (a - ((64 * (i % (4 : Int))).toNat)) v i v.length ‹_› ‹_› ‹_› (fun _ => rfl) (by omega) ‹_› (fun _ => rfl) (by rw [O]; exact nextL_bd hss hok _) (by omega) (by omega) Z ‹_› (by omega) (by rfl)) [9, 6, 8, 7] ((Lend.nil _).tells 0 (κ 5 .u8 e f.length a f) (subBase e ((64 * (i % (4 : Int))).toNat) a 1) (nums .u8 v) (by kernel_rfl) (P)) ?_)
  rintro _ _ ⟨u, t, s, l, o, k, K, J, rfl, rfl, M, Q, r0, j0, k0, p0, m0, o0⟩
  refine RunR.sl hU [] 4 9 [0, 4, 5, 32, 58, 59, 60] [(0, pt wj), (4, pt g), (5, ς (ad p) ((datN n).toNat) ((datN n).toNat)), (32, ι i), (58, .string u), (59, .agg #[ι t, ι s, ς l k.length o]), (60, η K)] 4 ?_
  refine RunR.st (some 10) (.alloc 63) (Step.al hU 3 40 (.agg #[ι 0, ι 0, ς0]) (fun I => ?_))
  refine RunR.sl hU [] 1 11 [0, 4, 5, 9, 10, 32, 59, 60] [(0, pt wj), (4, pt g), (5, ς (ad p) ((datN n).toNat) ((datN n).toNat)), (9, .string u), (10, pt I), (32, ι i), (59, .agg #[ι t, ι s, ς l k.length o]), (60, η K)] 1 ?_
  refine RunR.st none (.store 63 (.tmp 10) (.tmp 59)) (Step.store_blk hU 0 I 0 63 [ι 0, ι 0, ς0] (.agg #[ι t, ι s, ς l k.length o]) (by kernel_rfl) (by kernel_rfl) (by kernel_rfl) 3 rfl [ι t, ι s, ς l k.length o] (by kernel_rfl) rfl (by kernel_rfl) (by decide) ?_)
  refine RunR.sl hU [] 1 13 [0, 4, 5, 9, 10, 11, 32] [(0, pt wj), (4, pt g), (5, ς (ad p) ((datN n).toNat) ((datN n).toNat)), (9, .string u), (10, pt I), (11, η K), (32, ι i)] 1 ?_
  refine RunR.nn ?_
  refine RunC.seq ?_
  refine RunC.sr ?_
  refine RunR.sl hU [] 2 2 [0, 4, 5, 9, 10, 32, 62] [(0, pt wj), (4, pt g), (5, ς (ad p) ((datN n).toNat) ((datN n).toNat)), (9, .string u), (10, pt I), (32, ι i), (62, η (!K))] 2 ?_
  refine RunR.nn ?_
  refine RunC.cond (b := !K) (by kernel_rfl) (fun b0 => ?_) (fun b0 => ?_)
  ·refine RunC.sr ?_
   refine RunR.sl hU [] 2 2 [0, 2, 3, 4, 5, 9, 10, 32] [(0, pt wj), (2, .pointer none), (3, ι 8), (4, pt g), (5, ς (ad p) ((datN n).toNat) ((datN n).toNat)), (9, .string u), (10, pt I), (32, ι i)] 2 ?_
   refine RunR.nn ?_
   refine RunC.ret ?_
   refine kseq_r ?_
   refine kblock_r ?_
   refine kseq_r ?_
   refine kloop_r ?_
   refine kblock_r ?_
   refine kseq_r ?_
   refine kret_r [.pointer none, ι 8] [7, 7, 7, 7, 7] (blk wj 71 [pt d] :: δ d A n c ss Wa m wc ws lf dn []) ⟨rfl, rfl, trivial⟩ (by kernel_rfl) rfl (.inr <| .inl ⟨rfl, rfl, (by omega), (by have hs_ := M; rw [O] at hs_; exact open_no (open_bad hi (by omega) hO (ent_is hi ‹_› ‹_› F E) (fun g_ => absurd ((ent0 E).symm.trans g_) ‹_›) hs_ (not_t ‹_›)))⟩)
  refine RunC.ks ?_
  refine RunC.regionU hU 7 [blk g 51 [pt wj, .map (some y), ς (ad q) ((datN n).toNat) ((datN n).toNat), η false], blk I 63 [ι t, ι s, ς l k.length o]] [2, 0] [6] (bm 7 0) (by kernel_rfl) (by kernel_rfl) (by kernel_rfl) ?_
  refine RunU.sl hU 0 (bm 7 1) 63 (pt g) ?_
  refine RunU.sl hU 1 (bm 7 3) 64 (pt g) ?_
  refine RunU.sl hU 2 (bm 7 7) 65 (.pointer (some ⟨g, 1, none⟩)) ?_
  refine RunU.rd 3 (bm 7 15) 66 (.load 48 (.tmp 65)) (.map (some y)) [2, 0] (Reads.load_blk hU 0 g (1) 51 [pt wj, .map (some y), ς (ad q) ((datN n).toNat) ((datN n).toNat), η false] (.map (some y)) (by kernel_rfl) (by kernel_rfl) (by kernel_rfl)) ?_
  refine RunU.sl hU 4 (bm 7 31) 67 (.string u) ?_
  refine RunU.rd 5 (bm 7 63) 68 (.load 63 (.tmp 10)) (.agg #[ι t, ι s, ς l k.length o]) [2, 0] (Reads.load_blk hU 1 I (0) 63 [ι t, ι s, ς l k.length o] (.agg #[ι t, ι s, ς l k.length o]) (by kernel_rfl) (by kernel_rfl) (by kernel_rfl)) ?_
  refine RunU.on none (.mapUpdate 48 (.tmp 66) (.tmp 67) (.tmp 68)) 6 (bm 7 127) [] (Step.updateFe hU 3 9 63 y fc Fs u t s l o k (by kernel_rfl) (by kernel_rfl) (by kernel_rfl) (by kernel_rfl) (by kernel_rfl) (by kernel_rfl) (by assumption : FMOK Fs fc) ?_)
  refine orR ?_
  refine RunU.turn ((rws .i64 ((l, o, k) :: G) :: mpf y ((fput Fs fc ⟨u, t, s, l, o, k, 0⟩).map feM) (fclock Fs fc u) :: blk I 63 [ι t, ι s, ς l k.length o] :: blk g 51 [pt wj, .map (some y), ς (ad q) ((datN n).toNat) ((datN n).toNat), η false] :: κ 3 .i64 (ad q) ((datN n).toNat) ((datN n).toNat) x :: row 4 1 (ς (ad p) ((datN n).toNat) ((datN n).toNat)) ((datN n).toNat) (bls J) :: κ 5 .u8 e f.length a f :: blk wj 71 [pt d] :: δ d A n c ss Wa m wc ws lf dn [])) (fun _ _ w hs => SAT.rwsPush l o k rfl (tells_row _ _ _ _ _ _) (hs.pulls2 [2, 11] ((κ 3 .i64 l k.length o k :: rws .i64 G :: mpf y ((fput Fs fc ⟨u, t, s, l, o, k, 0⟩).map feM) (fclock Fs fc u) :: blk I 63 [ι t, ι s, ς l k.length o] :: blk g 51 [pt wj, .map (some y), ς (ad q) ((datN n).toNat) ((datN n).toNat), η false] :: κ 3 .i64 (ad q) ((datN n).toNat) ((datN n).toNat) x :: row 4 1 (ς (ad p) ((datN n).toNat) ((datN n).toNat)) ((datN n).toNat) (bls J) :: κ 5 .u8 e f.length a f :: blk wj 71 [pt d] :: δ d A n c ss Wa m wc ws lf dn [])) (by kernel_rfl))) ?_
  refine RunU.ev [0, 4, 5, 32] [(0, pt wj), (4, pt g), (5, ς (ad p) ((datN n).toNat) ((datN n).toNat)), (32, ι i)] ?_
  refine RunU.dn ?_
  refine kblock_n ?_
  refine kseq_n ?_
  refine RunC.region ?_
  refine RunR.sil hU [0] 2 2 [0, 4, 5, 32] [(0, pt wj), (4, pt g), (5, ς (ad p) ((datN n).toNat) ((datN n).toNat)), (32, ι (i + 1))] ((-9223372036854775808 ≤ (i + 1) ∧ (i + 1) < 9223372036854775808) ∧ (True) ∧ True) rfl (by kernel_rfl) ⟨(by omega), trivial, trivial⟩ ?_
  refine RunR.dn ?_
  refine kloop_n _ [0, 4, 5, 32] [1, 0, 3, 1, 1, 2, 2, 2, 2, 2] [(0, pt wj), (4, pt g), (5, ς (ad p) ((datN n).toNat) ((datN n).toNat)), (32, ι (i + 1))] (mpf y ((fput Fs fc ⟨u, t, s, l, o, k, 0⟩).map feM) (fclock Fs fc u) :: rws .i64 ((l, o, k) :: G) :: row 4 1 (ς (ad p) ((datN n).toNat) ((datN n).toNat)) ((datN n).toNat) (bls J) :: blk g 51 [pt wj, .map (some y), ς (ad q) ((datN n).toNat) ((datN n).toNat), η false] :: κ 3 .i64 (ad q) ((datN n).toNat) ((datN n).toNat) x :: blk wj 71 [pt d] :: δ d A n c ss Wa m wc ws lf dn []) (by kernel_rfl) (by kernel_rfl) ?_ ⟨(i + 1), (fput Fs fc ⟨u, t, s, l, o, k, 0⟩), (fclock Fs fc u), ((l, o, k) :: G), J, (by omega), ‹_›, (by have hs_ := M; rw [O] at hs_; exact open_put hi hO (ent_is hi ‹_› ‹_› F E) (fun g_ => absurd ((ent0 E).symm.trans g_) ‹_›) hs_ (not_f ‹_›) (Q (not_f ‹_›))), ‹_›, (by have hsl_ := Q (not_f ‹_›); exact hFe.put _ ⟨by dsimp only; omega, by dsimp only; omega, by assumption, by assumption, by assumption, by dsimp only; omega⟩), (by exact hFm.put _), (by exact hFi.put _), (by have hb_ := slot_blk M (not_f ‹_›) ‹_›; exact hFb.put _ (fun i_ hi_ => by have h_ := hb_.1 i_ hi_; omega) hb_.2), rfl, (by rfl), (by rfl)⟩
  show ((64 - (i + 1)).toNat : Nat) < ((64 - i).toNat : Nat)
  omega
 refine RunC.exit ?_
 refine kseq_e ?_
 refine kloop_e ?_
 refine kblock_e ?_
 refine kseq_n ?_
 refine RunC.seq ?_
 refine RunC.sr ?_
 refine RunR.sl hU [] 3 3 [4, 5, 72] [(4, pt g), (5, ς (ad p) ((datN n).toNat) ((datN n).toNat)), (72, .pointer (some ⟨g, 2, none⟩))] 3 ?_
 refine RunR.st (some 73) (.load 49 (.tmp 72)) (Step.load_blk hU 3 g (2) 51 [pt wj, .map (some y), ς (ad q) ((datN n).toNat) ((datN n).toNat), η false] (ς (ad q) ((datN n).toNat) ((datN n).toNat)) (by kernel_rfl) (by kernel_rfl) (by kernel_rfl) (by kernel_rfl) ?_)
 refine RunR.sl hU [] 2 6 [4, 5, 73, 74, 75] [(4, pt g), (5, ς (ad p) ((datN n).toNat) ((datN n).toNat)), (73, ς (ad q) ((datN n).toNat) ((datN n).toNat)), (74, ι ((((datN n).toNat) : Nat) : Int)), (75, ι 0)] 2 ?_
 refine RunR.nn ?_
 refine RunC.block ?_
 refine RunC.env [4, 5, 73, 74, 75] [(4, pt g), (5, ς (ad p) ((datN n).toNat) ((datN n).toNat)), (73, ς (ad q) ((datN n).toNat) ((datN n).toNat)), (74, ι ((((datN n).toNat) : Nat) : Int)), (75, ι 0)] (by kernel_rfl) ?_
 refine RunC.only [0, 0, 0, 0, 0, 0, 0, 0, 0, 0] (mpf y (Fs.map feM) fc :: rws .i64 G :: row 4 1 (ς (ad p) ((datN n).toNat) ((datN n).toNat)) ((datN n).toNat) (bls H) :: blk g 51 [pt wj, .map (some y), ς (ad q) ((datN n).toNat) ((datN n).toNat), η false] :: κ 3 .i64 (ad q) ((datN n).toNat) ((datN n).toNat) x :: blk wj 71 [pt d] :: δ d A n c ss Wa m wc ws lf dn []) (by kernel_rfl) ?_
 refine RunC.loop (σ := Nat) (fun n_ t_ D_ => ∃ (j : Int), (0 ≤ j) ∧ (j ≤ datN n) ∧ (tabOK (nextL ss (dat ws) (datN n).toNat) H j.toNat) ∧ n_ = ((datN n - j).toNat : Nat) ∧ t_ = [(4, pt g), (5, ς (ad p) ((datN n).toNat) ((datN n).toNat)), (73, ς (ad q) ((datN n).toNat) ((datN n).toNat)), (74, ι ((((datN n).toNat) : Nat) : Int)), (75, ι j)] ∧ D_ = (mpf y (Fs.map feM) fc :: rws .i64 G :: row 4 1 (ς (ad p) ((datN n).toNat) ((datN n).toNat)) ((datN n).toNat) (bls H) :: blk g 51 [pt wj, .map (some y), ς (ad q) ((datN n).toNat) ((datN n).toNat), η false] :: κ 3 .i64 (ad q) ((datN n).toNat) ((datN n).toNat) x :: blk wj 71 [pt d] :: δ d A n c ss Wa m wc ws lf dn [])) id _ ⟨0, (by omega), (by omega), (by intro i hi; exact absurd hi (Nat.not_lt_zero _)), rfl, rfl, rfl⟩ ?_
 rintro n_ _ _ ⟨j, hj, x0, hT, rfl, rfl, rfl⟩
 refine RunC.sr ?_
 refine RunR.sl hU [] 1 1 [4, 5, 73, 74, 75, 76] [(4, pt g), (5, ς (ad p) ((datN n).toNat) ((datN n).toNat)), (73, ς (ad q) ((datN n).toNat) ((datN n).toNat)), (74, ι ((((datN n).toNat) : Nat) : Int)), (75, ι j), (76, η (decide (j < ((((datN n).toNat) : Nat) : Int))))] 1 ?_
 refine RunR.nn ?_
 refine RunC.seq ?_
 refine RunC.condp (j < ((((datN n).toNat) : Nat) : Int)) (by kernel_rfl) (fun i0 => ?_) (fun i0 => ?_)
 ·refine RunC.ks ?_
  refine RunC.seq ?_
  refine RunC.block ?_
  refine RunC.sr ?_
  refine RunR.sil hU [] 2 2 [4, 5, 73, 74, 75, 77, 78] [(4, pt g), (5, ς (ad p) ((datN n).toNat) ((datN n).toNat)), (73, ς (ad q) ((datN n).toNat) ((datN n).toNat)), (74, ι ((((datN n).toNat) : Nat) : Int)), (75, ι j), (77, ι j), (78, .pointer (elemAt (ad q) j 1))] ((True) ∧ ((0 ≤ j ∧ j < ((((datN n).toNat) : Nat) : Int)) ∧ Option.isSome ((ad q) : Option Addr) = true) ∧ True) rfl (by kernel_rfl) ⟨trivial, ⟨by omega, rfl⟩, trivial⟩ ?_
  refine RunR.st (some 79) (.load 3 (.tmp 78)) (Step.load_num hU 4 (κ 3 .i64 (ad q) ((datN n).toNat) ((datN n).toNat) x) (ad q) j .i64 x rfl (by kernel_rfl) (by kernel_rfl) (tells_row _ _ _ _ _ _) (by kernel_rfl) (by omega) ?_)
  refine RunR.sl hU [] 2 5 [4, 5, 12, 13, 73, 74, 75] [(4, pt g), (5, ς (ad p) ((datN n).toNat) ((datN n).toNat)), (12, ι j), (13, ι (x.getD (j).toNat 0)), (73, ς (ad q) ((datN n).toNat) ((datN n).toNat)), (74, ι ((((datN n).toNat) : Nat) : Int)), (75, ι j)] 2 ?_
  refine RunR.nx ?_
  refine RunR.sil hU [] 5 5 [4, 5, 73, 74, 75, 81, 84] [(4, pt g), (5, ς (ad p) ((datN n).toNat) ((datN n).toNat)), (73, ς (ad q) ((datN n).toNat) ((datN n).toNat)), (74, ι ((((datN n).toNat) : Nat) : Int)), (75, ι j), (81, η (!decide ((x.getD (j).toNat 0) = 0))), (84, .pointer (elemAt (ad p) j 1))] ((True) ∧ (True) ∧ (True) ∧ (True) ∧ ((0 ≤ j ∧ j < (((datN n).toNat : Nat) : Int)) ∧ Option.isSome (some ⟨p, 0, none⟩ : Option Addr) = true) ∧ True) rfl (by kernel_rfl) ⟨trivial, trivial, trivial, trivial, ⟨by omega, rfl⟩, trivial⟩ ?_
  refine RunR.st (some 85) (.load 4 (.tmp 84)) (Step.load_of hU 2 (row 4 1 (ς (ad p) ((datN n).toNat) ((datN n).toNat)) ((datN n).toNat) (bls H)) (ad p) j 1 (bls H) (η (H.getD (j).toNat false)) (by kernel_rfl) (by kernel_rfl) (tells_row _ _ _ _ _ _) (loadv_bls (by kernel_rfl) (by omega)) (by kernel_rfl) (by rw [bls_len]; omega) ?_)
  refine RunR.sl hU [] 1 7 [4, 5, 73, 74, 75, 86] [(4, pt g), (5, ς (ad p) ((datN n).toNat) ((datN n).toNat)), (73, ς (ad q) ((datN n).toNat) ((datN n).toNat)), (74, ι ((((datN n).toNat) : Nat) : Int)), (75, ι j), (86, η (!((!decide ((x.getD (j).toNat 0) = 0)) == H.getD (j).toNat false)))] 1 ?_
  refine RunR.nn ?_
  refine RunC.cond (b := !((!decide ((x.getD (j).toNat 0) = 0)) == H.getD (j).toNat false)) (by kernel_rfl) (fun g0 => ?_) (fun g0 => ?_)
  ·refine RunC.sr ?_
   refine RunR.sl hU [] 2 2 [2, 3, 4, 5, 73, 74, 75] [(2, .pointer none), (3, ι 8), (4, pt g), (5, ς (ad p) ((datN n).toNat) ((datN n).toNat)), (73, ς (ad q) ((datN n).toNat) ((datN n).toNat)), (74, ι ((((datN n).toNat) : Nat) : Int)), (75, ι j)] 2 ?_
   refine RunR.nn ?_
   refine RunC.ret ?_
   refine kblock_r ?_
   refine kseq_r ?_
   refine kloop_r ?_
   refine kblock_r ?_
   refine kseq_r ?_
   refine kret_r [.pointer none, ι 8] [5, 5, 5, 5, 5] (blk wj 71 [pt d] :: δ d A n c ss Wa m wc ws lf dn []) ⟨rfl, rfl, trivial⟩ (by kernel_rfl) rfl (.inr <| .inl ⟨rfl, rfl, (by omega), (by rw [O] at *; exact open_tab (by rw [show 64 = i.toNat by omega]; exact hO) (tab_bad (tab_not ‹_›) (by omega)))⟩)
  refine RunC.skip ?_
  refine kblock_n ?_
  refine kseq_n ?_
  refine RunC.region ?_
  refine RunR.sil hU [0] 2 2 [4, 5, 73, 74, 75] [(4, pt g), (5, ς (ad p) ((datN n).toNat) ((datN n).toNat)), (73, ς (ad q) ((datN n).toNat) ((datN n).toNat)), (74, ι ((((datN n).toNat) : Nat) : Int)), (75, ι (j + 1))] ((-9223372036854775808 ≤ (j + 1) ∧ (j + 1) < 9223372036854775808) ∧ (True) ∧ True) rfl (by kernel_rfl) ⟨(by omega), trivial, trivial⟩ ?_
  refine RunR.dn ?_
  refine kloop_n _ [4, 5, 73, 74, 75] [0, 0, 0, 0, 0, 0, 0, 0, 0, 0] [(4, pt g), (5, ς (ad p) ((datN n).toNat) ((datN n).toNat)), (73, ς (ad q) ((datN n).toNat) ((datN n).toNat)), (74, ι ((((datN n).toNat) : Nat) : Int)), (75, ι (j + 1))] (mpf y (Fs.map feM) fc :: rws .i64 G :: row 4 1 (ς (ad p) ((datN n).toNat) ((datN n).toNat)) ((datN n).toNat) (bls H) :: blk g 51 [pt wj, .map (some y), ς (ad q) ((datN n).toNat) ((datN n).toNat), η false] :: κ 3 .i64 (ad q) ((datN n).toNat) ((datN n).toNat) x :: blk wj 71 [pt d] :: δ d A n c ss Wa m wc ws lf dn []) (by kernel_rfl) (by kernel_rfl) ?_ ⟨(j + 1), (by omega), (by omega), (by rw [← O] at hT ⊢; exact tab_step hj hT (tab_iff ‹_›)), rfl, (by rfl), (by rfl)⟩
  show ((datN n - (j + 1)).toNat : Nat) < ((datN n - j).toNat : Nat)
  omega
 refine RunC.exit ?_
 refine kseq_e ?_
 refine kloop_e ?_
 refine kblock_e ?_
 refine kseq_n ?_
 refine RunC.sr ?_
 refine RunR.sl hU [] 3 3 [2, 3] [(2, pt g), (3, ι 0)] 3 ?_
 refine RunR.nn ?_
 refine RunC.ret ?_
 refine kret_r [pt g, ι 0] [3, 0, 2, 0, 1, 1, 1, 1, 1] (blk g 51 [pt wj, .map (some y), ς (ad q) ((datN n).toNat) ((datN n).toNat), η false] :: mpf y (Fs.map feM) fc :: κ 3 .i64 (ad q) ((datN n).toNat) ((datN n).toNat) x :: rws .i64 G :: blk wj 71 [pt d] :: δ d A n c ss Wa m wc ws lf dn []) ⟨rfl, rfl, trivial⟩ (by kernel_rfl) rfl (.inr <| .inr ⟨g, y, Fs, fc, G, (ad q), ((datN n).toNat), x, rfl, rfl, (by omega), (by exact ⟨H, (by rw [show 64 = i.toNat by omega]; exact hO), tab_eq hT (by omega)⟩), ‹_›, ‹_›, ‹_›, ‹_›, ‹_›, ‹_›, (fun _ => rfl), (by omega)⟩)
theorem fl_Read_spec (fi : Nat) (wj : Nat) (dd : Bool) (mp : Nat) (Fs : List Fe) (fc : Nat) (G : List Ro) (NA : Option Addr) (nk : Nat) (nc : Nat) (ns : List Int) (d : Nat) (A : Option Addr) (n : Nat) (c : Nat) (ss : List Int) (Wa : Option Addr) (m : Nat) (wc : Nat) (ws : List Ch) (lf : Int) (dn : Bool) (s : ByteArray) (hFe : FeOK Fs) (hFm : FMOK Fs fc) (hFi : FeIn Fs G) (hFb : FeBl Fs (datN n)) (hnk : ns.length = nk) (hkd : (nk : Int) = datN n) (hNA : 0 < nk → Option.isSome NA = true) (hnkc : nk ≤ nc) (hins : Bnd 0 65536 ns) (hss : In .u8 ss) (hnl : ss.length = n) (hnc : n ≤ c) (hAs : 0 < n → Option.isSome A = true) (f0 : n % 256 = 0) (hnb : n ≤ 557056) (hml : ws.length = m) (hmb : m ≤ 800000) (hok : ChOK .u8 ws) (hwk : WOK n ws) (hWs : 0 < m → Option.isSome Wa = true) :
 CallsS Try.prog 9 [pt fi, .string s] (blk fi 51 [pt wj, .map (some mp), ς NA nk nc, η dd] :: mpf mp (Fs.map feM) fc :: κ 3 .i64 NA nk nc ns :: rws .i64 G :: blk wj 71 [pt d] :: δ d A n c ss Wa m wc ws lf dn []) (fun r D => ∃ (J : Option Addr) (c9 : Nat) (N : Nat) (xs : List Int) (zs : List Int) (e : Int), r = .tuple #[ς J zs.length zs.length, ι e] ∧ D = (κ 5 .u8 J N c9 xs :: blk fi 51 [pt wj, .map (some mp), ς NA nk nc, η dd] :: mpf mp (Fs.map feM) fc :: κ 3 .i64 NA nk nc ns :: rws .i64 G :: blk wj 71 [pt d] :: δ d A n c ss Wa m wc ws lf dn []) ∧ ((e, zs) = readF ss (dat ws) Fs s) ∧ (In .u8 zs) ∧ (zs = xs.take zs.length) ∧ (0 < zs.length → Option.isSome J = true) ∧ (zs.length ≤ 300000000)) := by
 refine CallsS.enter hU Try.f9 _ [.tmp 4, .tmp 5] 51 Try.func9 rfl (by decide) rfl rfl (by kernel_rfl) fun w0 W => ?_
 have hdb := datN_bd n
 refine RunC.sr ?_
 refine RunR.sl hU [] 2 2 [0, 1, 4, 5] [(0, pt fi), (1, .string s), (4, ς0), (5, ι 0)] 2 ?_
 refine RunR.nx ?_
 refine RunR.sl hU [] 3 3 [0, 1, 4, 5, 16] [(0, pt fi), (1, .string s), (4, ς0), (5, ι 0), (16, .pointer (some ⟨fi, 1, none⟩))] 3 ?_
 refine RunR.st (some 17) (.load 48 (.tmp 16)) (Step.load_blk hU 0 fi (1) 51 [pt wj, .map (some mp), ς NA nk nc, η dd] (.map (some mp)) (by kernel_rfl) (by kernel_rfl) (by kernel_rfl) (by kernel_rfl) ?_)
 refine RunR.sl hU [] 1 5 [0, 4, 5, 17, 18] [(0, pt fi), (4, ς0), (5, ι 0), (17, .map (some mp)), (18, .string s)] 1 ?_
 refine RunR.st (some 19) (.lookup 48 (.tmp 17) (.tmp 18) true) (Step.lookupFe hU 1 9 63 mp fc 3 40 Fs s (by kernel_rfl) (by kernel_rfl) (by kernel_rfl) (by kernel_rfl) (by kernel_rfl) (by kernel_rfl) (by assumption : FeOK Fs) (by kernel_rfl) (fun o l g k a y c0 d0 M R F b0 => ?_))
 have H := y.blk hFb; have B := H.2; unfold need at B
 refine RunR.sl hU [] 3 9 [0, 4, 5, 20, 21] [(0, pt fi), (4, ς0), (5, ι 0), (20, .agg #[ι o, ι l, ς g a.length k]), (21, η (fhas Fs s))] 3 ?_
 refine RunR.st (some 6) (.alloc 63) (Step.al hU 3 40 (.agg #[ι 0, ι 0, ς0]) (fun f => ?_))
 refine RunR.st none (.store 63 (.tmp 6) (.tmp 20)) (Step.store_blk hU 0 f 0 63 [ι 0, ι 0, ς0] (.agg #[ι o, ι l, ς g a.length k]) (by kernel_rfl) (by kernel_rfl) (by kernel_rfl) 3 rfl [ι o, ι l, ς g a.length k] (by kernel_rfl) rfl (by kernel_rfl) (by decide) ?_)
 refine RunR.sl hU [] 1 12 [0, 4, 5, 6, 7] [(0, pt fi), (4, ς0), (5, ι 0), (6, pt f), (7, η (fhas Fs s))] 1 ?_
 refine RunR.nn ?_
 refine RunC.seq ?_
 refine RunC.sr ?_
 refine RunR.sl hU [] 2 2 [0, 4, 5, 6, 23] [(0, pt fi), (4, ς0), (5, ι 0), (6, pt f), (23, η (!fhas Fs s))] 2 ?_
 refine RunR.nn ?_
 refine RunC.cond (b := !fhas Fs s) (by kernel_rfl) (fun O => ?_) (fun O => ?_)
 ·refine RunC.sr ?_
  refine RunR.sl hU [] 2 2 [0, 4, 5, 6] [(0, pt fi), (4, ς0), (5, ι 4), (6, pt f)] 2 ?_
  refine RunR.nn ?_
  refine RunC.ret ?_
  refine kseq_r ?_
  refine kret_rt ((κ 5 .u8 none 0 0 ([] : List Int) :: blk f 63 [ι o, ι l, ς g a.length k] :: blk fi 51 [pt wj, .map (some mp), ς NA nk nc, η dd] :: mpf mp (Fs.map feM) fc :: κ 3 .i64 NA nk nc ns :: rws .i64 G :: blk wj 71 [pt d] :: δ d A n c ss Wa m wc ws lf dn [])) (fun w0 W w hs => (hs).nil_row 5 1) [ς0, ι 4] [0, 1, 1, 1, 1, 1, 1, 1, 1, 1] (κ 5 .u8 none 0 0 ([] : List Int) :: blk fi 51 [pt wj, .map (some mp), ς NA nk nc, η dd] :: mpf mp (Fs.map feM) fc :: κ 3 .i64 NA nk nc ns :: rws .i64 G :: blk wj 71 [pt d] :: δ d A n c ss Wa m wc ws lf dn []) ⟨rfl, rfl, trivial⟩ (by kernel_rfl) rfl ⟨none, 0, 0, ([] : List Int), [], 4, rfl, rfl, (by exact read_no (by simpa using (by assumption : (!fhas Fs s) = true))), (by exact In.nil _), (by rfl), (by intro h; simp at h), (by exact Nat.zero_le _)⟩
 refine RunC.ksr ?_
 refine RunR.sl hU [] 1 1 [0, 4, 5, 6, 8] [(0, pt fi), (4, ς0), (5, ι 0), (6, pt f), (8, ς0)] 1 ?_
 refine RunR.nn ?_
 refine RunC.seq ?_
 refine RunC.sr ?_
 refine RunR.sl hU [] 1 1 [0, 4, 5, 6, 8, 24] [(0, pt fi), (4, ς0), (5, ι 0), (6, pt f), (8, ς0), (24, .pointer (some ⟨f, 2, none⟩))] 1 ?_
 refine RunR.st (some 25) (.load 49 (.tmp 24)) (Step.load_blk hU 0 f (2) 63 [ι o, ι l, ς g a.length k] (ς g a.length k) (by kernel_rfl) (by kernel_rfl) (by kernel_rfl) (by kernel_rfl) ?_)
 refine RunR.sl hU [] 2 4 [0, 4, 5, 6, 8, 25, 26, 27] [(0, pt fi), (4, ς0), (5, ι 0), (6, pt f), (8, ς0), (25, ς g a.length k), (26, ι (a.length : Int)), (27, ι 0)] 2 ?_
 refine RunR.nn ?_
 refine RunC.block ?_
 refine RunC.turn ((κ 5 .u8 none 0 0 ([] : List Int) :: blk f 63 [ι o, ι l, ς g a.length k] :: blk fi 51 [pt wj, .map (some mp), ς NA nk nc, η dd] :: mpf mp (Fs.map feM) fc :: κ 3 .i64 NA nk nc ns :: rws .i64 G :: blk wj 71 [pt d] :: δ d A n c ss Wa m wc ws lf dn [])) (fun _ _ w hs => hs.nil_row 5 1) ?_
 refine RunC.env [0, 4, 5, 6, 8, 25, 26, 27] [(0, pt fi), (4, ς0), (5, ι 0), (6, pt f), (8, ς0), (25, ς g a.length k), (26, ι (a.length : Int)), (27, ι 0)] (by kernel_rfl) ?_
 refine RunC.only [0, 0, 0, 0, 0, 0, 0, 0, 0, 0, 0] (κ 5 .u8 none 0 0 ([] : List Int) :: blk f 63 [ι o, ι l, ς g a.length k] :: blk fi 51 [pt wj, .map (some mp), ς NA nk nc, η dd] :: mpf mp (Fs.map feM) fc :: κ 3 .i64 NA nk nc ns :: rws .i64 G :: blk wj 71 [pt d] :: δ d A n c ss Wa m wc ws lf dn []) (by kernel_rfl) ?_
 refine RunC.loop (σ := Nat) (fun n_ t_ D_ => ∃ (i : Int) (os : List Int) (t : Option Addr) (u : Nat), (0 ≤ i) ∧ (i ≤ (a.length : Int)) ∧ (os = datB ss (dat ws) ((a).take i.toNat)) ∧ ((os.length : Int) = 256 * i) ∧ (In .u8 os) ∧ (os.length ≤ u) ∧ (0 < os.length → Option.isSome t = true) ∧ n_ = ((a.length - i).toNat : Nat) ∧ t_ = [(0, pt fi), (4, ς0), (5, ι 0), (6, pt f), (8, ς t os.length u), (25, ς g a.length k), (26, ι (a.length : Int)), (27, ι i)] ∧ D_ = (κ 5 .u8 t os.length u os :: blk f 63 [ι o, ι l, ς g a.length k] :: blk fi 51 [pt wj, .map (some mp), ς NA nk nc, η dd] :: mpf mp (Fs.map feM) fc :: κ 3 .i64 NA nk nc ns :: rws .i64 G :: blk wj 71 [pt d] :: δ d A n c ss Wa m wc ws lf dn [])) id _ ⟨0, ([] : List Int), none, 0, (by omega), (by omega), (by rfl), (by rfl), (by exact In.nil _), (by exact Nat.zero_le _), (by intro h; simp at h), rfl, rfl, rfl⟩ ?_
 rintro n_ _ _ ⟨i, os, t, u, hi, e0, ho, hol, hios, hcos, hAos, rfl, rfl, rfl⟩
 refine RunC.sr ?_
 refine RunR.sl hU [] 1 1 [0, 4, 5, 6, 8, 25, 26, 27, 28] [(0, pt fi), (4, ς0), (5, ι 0), (6, pt f), (8, ς t os.length u), (25, ς g a.length k), (26, ι (a.length : Int)), (27, ι i), (28, η (decide (i < (a.length : Int))))] 1 ?_
 refine RunR.nn ?_
 refine RunC.seq ?_
 refine RunC.condp (i < (a.length : Int)) (by kernel_rfl) (fun Q => ?_) (fun Q => ?_)
 ·refine RunC.ks ?_
  refine RunC.seq ?_
  refine RunC.block ?_
  refine RunC.sr ?_
  refine RunR.sil hU [] 1 1 [0, 4, 5, 6, 8, 25, 26, 27, 29] [(0, pt fi), (4, ς0), (5, ι 0), (6, pt f), (8, ς t os.length u), (25, ς g a.length k), (26, ι (a.length : Int)), (27, ι i), (29, .pointer (elemAt g i 1))] (((0 ≤ i ∧ i < (a.length : Int)) ∧ Option.isSome g = true) ∧ True) rfl (by kernel_rfl) ⟨⟨by omega, F (by omega)⟩, trivial⟩ ?_
  refine RunR.st (some 30) (.load 3 (.tmp 29)) (Step.load_num hU 5 (rws .i64 G) g i .i64 a rfl (by kernel_rfl) (by kernel_rfl) (y.tells (by assumption : FeIn Fs G)) (by kernel_rfl) (by omega) ?_)
  have T : -9223372036854775808 ≤ a.getD ((i).toNat) 0 ∧ a.getD ((i).toNat) 0 < 9223372036854775808 := M.at_ _
  refine RunR.sl hU [] 1 3 [0, 4, 5, 6, 8, 10, 25, 26, 27] [(0, pt fi), (4, ς0), (5, ι 0), (6, pt f), (8, ς t os.length u), (10, ι (a.getD (i).toNat 0)), (25, ς g a.length k), (26, ι (a.length : Int)), (27, ι i)] 1 ?_
  refine RunR.nn ?_
  refine RunC.seq ?_
  refine RunC.regionU hU 12 [blk fi 51 [pt wj, .map (some mp), ς NA nk nc, η dd]] [2] [6, 11] (bm 12 0) (by kernel_rfl) (by kernel_rfl) (by kernel_rfl) ?_
  refine RunU.sl hU 0 (bm 12 1) 32 (pt fi) ?_
  refine RunU.sl hU 1 (bm 12 3) 33 (pt fi) ?_
  refine RunU.sl hU 2 (bm 12 7) 34 (pt fi) ?_
  refine RunU.rd 3 (bm 12 15) 35 (.load 40 (.tmp 34)) (pt wj) [2] (Reads.load_blk hU 0 fi (0) 51 [pt wj, .map (some mp), ς NA nk nc, η dd] (pt wj) (by kernel_rfl) (by kernel_rfl) (by kernel_rfl)) ?_
  refine RunU.sl hU 4 (bm 12 31) 36 (ι (a.getD (i).toNat 0)) ?_
  refine RunU.on (some 37) (.call { callee := .value (.func 23), args := #[.tmp 36], argTypes := #[3] }) 5 (bm 12 63) [2] (Step.cn 23 [ι (a.getD (i).toNat 0)] [] (κ 5 .u8 t os.length u os :: blk f 63 [ι o, ι l, ς g a.length k] :: blk fi 51 [pt wj, .map (some mp), ς NA nk nc, η dd] :: mpf mp (Fs.map feM) fc :: κ 3 .i64 NA nk nc ns :: rws .i64 G :: blk wj 71 [pt d] :: δ d A n c ss Wa m wc ws lf dn []) (fl_place_spec (a.getD (i).toNat 0) (by have h_ := bl_at (y.blk hFb).1 hi (by omega) rfl; omega)) [] ?_)
  rintro _ _ ⟨rfl, rfl⟩
  have a0 := bl_at (y.blk hFb).1 hi (by omega) rfl
  refine orL ?_
  refine RunU.on (some 38) (.call { callee := .value (.func 22), args := #[.tmp 35, .tmp 37], argTypes := #[40, 3] }) 6 (bm 12 127) [] (Step.cn 22 [pt wj, ι (32 + (a.getD (i).toNat 0))] (blk wj 71 [pt d] :: δ d A n c ss Wa m wc ws lf dn []) (κ 5 .u8 t os.length u os :: blk f 63 [ι o, ι l, ς g a.length k] :: ζ fi wj mp Fs fc NA nk nc ns dd [rws .i64 G]) (wl_Read_spec wj d A n c ss Wa m wc ws lf dn (32 + (a.getD (i).toNat 0)) hss ‹_› ‹_› (fun h => hAs (by exact h)) ‹_› ‹_› ‹_› (by omega) ‹_› ‹_› (fun h => hWs (by exact h)) (by (refine ⟨?_, ?_⟩ <;> omega))) [6, 6, 6, 6, 6] ?_)
  rintro _ _ ⟨q, p, j, C, rfl, rfl, E, Y, S, X⟩
  rcases E with ⟨z, K, P, L⟩ | ⟨z, _⟩; rotate_left; exact absurd (show there n _ from ⟨by omega, by omega⟩) z
  refine orR ?_
  refine RunU.sl hU 7 (bm 12 255) 31 (.tuple #[ς q j.length p, ι C]) ?_
  refine RunU.sl hU 8 (bm 12 511) 39 (ς q j.length p) ?_
  refine RunU.sl hU 9 (bm 12 1023) 40 (ι C) ?_
  refine RunU.sl hU 10 (bm 12 2047) 11 (ς q j.length p) ?_
  refine RunU.sl hU 11 (bm 12 4095) 12 (ι C) ?_
  refine RunU.ev [0, 4, 5, 6, 8, 11, 25, 26, 27] [(0, pt fi), (4, ς0), (5, ι 0), (6, pt f), (8, ς t os.length u), (11, ς q j.length p), (25, ς g a.length k), (26, ι (a.length : Int)), (27, ι i)] ?_
  refine RunU.dn ?_
  refine kseq_n ?_
  refine RunC.region ?_
  refine RunR.sl hU [] 2 2 [0, 4, 5, 6, 8, 25, 26, 27, 41, 42] [(0, pt fi), (4, ς0), (5, ι 0), (6, pt f), (8, ς t os.length u), (25, ς g a.length k), (26, ι (a.length : Int)), (27, ι i), (41, ς t os.length u), (42, ς q j.length p)] 2 ?_
  refine RunR.st (some 43) (.call { callee := .builtin .append, args := #[.tmp 41, .tmp 42], argTypes := #[22, 22] }) (Step.append_nums hU 5 1 (.int .u8 0) .u8 6 0 t os.length u os q j.length p (κ 5 .u8 q j.length p j) j rfl rfl rfl (by kernel_rfl) (by kernel_rfl) (by kernel_rfl) (by kernel_rfl) (tells_row _ _ _ _ _ _) (by rfl) (by rfl) (by omega) (by omega) (by kernel_rfl) (fun x v Z I => ?_))
  have V : (os ++ j).length = os.length + j.length := List.length_append
  refine RunR.sl hU [] 1 4 [0, 4, 5, 6, 8, 25, 26, 27] [(0, pt fi), (4, ς0), (5, ι 0), (6, pt f), (8, ς x ((os ++ j).length) v), (25, ς g a.length k), (26, ι (a.length : Int)), (27, ι i)] 1 ?_
  refine RunR.dn ?_
  refine kblock_n ?_
  refine kseq_n ?_
  refine RunC.region ?_
  refine RunR.sil hU [0] 2 2 [0, 4, 5, 6, 8, 25, 26, 27] [(0, pt fi), (4, ς0), (5, ι 0), (6, pt f), (8, ς x ((os ++ j).length) v), (25, ς g a.length k), (26, ι (a.length : Int)), (27, ι (i + 1))] ((-9223372036854775808 ≤ (i + 1) ∧ (i + 1) < 9223372036854775808) ∧ (True) ∧ True) rfl (by kernel_rfl) ⟨(by omega), trivial, trivial⟩ ?_
  refine RunR.dn ?_
  refine kloop_n _ [0, 4, 5, 6, 8, 25, 26, 27] [0, 6, 6, 6, 6, 6, 1, 1, 1, 1, 1] [(0, pt fi), (4, ς0), (5, ι 0), (6, pt f), (8, ς x ((os ++ j).length) v), (25, ς g a.length k), (26, ι (a.length : Int)), (27, ι (i + 1))] (κ 5 .u8 x ((os ++ j).length) v (os ++ j) :: blk f 63 [ι o, ι l, ς g a.length k] :: blk fi 51 [pt wj, .map (some mp), ς NA nk nc, η dd] :: mpf mp (Fs.map feM) fc :: κ 3 .i64 NA nk nc ns :: rws .i64 G :: blk wj 71 [pt d] :: δ d A n c ss Wa m wc ws lf dn []) (by kernel_rfl) (by kernel_rfl) ?_ ⟨(i + 1), (os ++ j), x, v, (by omega), ‹_›, (by exact dat_step hi (by omega) ho rfl ‹_›), (by rw [List.length_append]; omega), (by (repeat first | assumption | with_reducible apply In.append)), ‹_›, (fun h => I (by exact h)), rfl, (by rfl), (by rfl)⟩
  show ((a.length - (i + 1)).toNat : Nat) < ((a.length - i).toNat : Nat)
  omega
 refine RunC.exit ?_
 refine kseq_e ?_
 refine kloop_e ?_
 refine kblock_e ?_
 refine kseq_n ?_
 refine RunC.sr ?_
 refine RunR.sl hU [] 2 2 [4, 5, 6, 45, 46] [(4, ς0), (5, ι 0), (6, pt f), (45, ς t os.length u), (46, .pointer (some ⟨f, 1, none⟩))] 2 ?_
 refine RunR.st (some 47) (.load 3 (.tmp 46)) (Step.load_blk hU 1 f (1) 63 [ι o, ι l, ς g a.length k] (ι l) (by kernel_rfl) (by kernel_rfl) (by kernel_rfl) (by kernel_rfl) ?_)
 refine RunR.sl hU [] 1 4 [4, 5, 45, 47, 48] [(4, ς0), (5, ι 0), (45, ς t os.length u), (47, ι l), (48, .pointer (some ⟨f, 1, none⟩))] 1 ?_
 refine RunR.st (some 49) (.load 3 (.tmp 48)) (Step.load_blk hU 1 f (1) 63 [ι o, ι l, ς g a.length k] (ι l) (by kernel_rfl) (by kernel_rfl) (by kernel_rfl) (by kernel_rfl) ?_)
 refine RunR.sil hU [] 3 8 [4, 5] [(4, ς t ((l).toNat) ((l).toNat)), (5, ι 0)] ((0 ≤ l ∧ l ≤ l ∧ l ≤ (u : Int)) ∧ (True) ∧ (True) ∧ True) rfl (by kernel_rfl) ⟨(by omega), trivial, trivial, trivial⟩ ?_
 refine RunR.nn ?_
 refine RunC.ret ?_
 refine kret_r [ς t ((l).toNat) ((l).toNat), ι 0] [0, 1, 1, 1, 1, 1, 1, 1, 1, 1] (κ 5 .u8 t os.length u os :: blk fi 51 [pt wj, .map (some mp), ς NA nk nc, η dd] :: mpf mp (Fs.map feM) fc :: κ 3 .i64 NA nk nc ns :: rws .i64 G :: blk wj 71 [pt d] :: δ d A n c ss Wa m wc ws lf dn []) ⟨rfl, rfl, trivial⟩ (by kernel_rfl) rfl ⟨t, u, os.length, os, (os.take l.toNat), 0, (by (have h_ : ∀ n_ : Nat, n_ ≤ os.length → (os.take n_).length = n_ := fun n_ hn_ => (by rw [List.length_take]; omega); rw [h_ _ (by omega)]; rfl)), (by rfl), (by exact read_yes (not_f ‹_›) y (dat_end ho (by omega))), (by exact hios.take _), (by rw [List.length_take]; refine List.take_eq_take_iff.2 ?_; omega), (by intro h; exact hAos (by rw [List.length_take] at h; omega)), (by rw [List.length_take]; omega)⟩
end Go.Proofs.Ytlibhidhfbecbaa.LFileOne
