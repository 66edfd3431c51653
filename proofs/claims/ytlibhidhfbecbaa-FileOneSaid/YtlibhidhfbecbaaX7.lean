import Derived.Test.YtlibhidhfbecbaaOnePure
import Derived.Test.YtlibhidhfbecbaaProg
import Derived.Test.YtlibhidhfbecbaaX6
namespace Go.Proofs.Ytlibhidhfbecbaa.LFileOne
open Go Go.Proofs.Ytlibhidhfbecbaa.SL Go.Proofs.Ytlibhidhfbecbaa.SL.W Go.Proofs.Ytlibhidhfbecbaa.SL.D Go.Proofs.Ytlibhidhfbecbaa.SL.I Go.Proofs.Ytlibhidhfbecbaa.XT
set_option linter.unusedVariables false
set_option linter.unusedSimpArgs false
set_option maxRecDepth 100000
set_option maxHeartbeats 40000000
theorem wl_head_spec (n : Nat) (La : Option Addr) (lm : Nat) (lc : Nat) (ls : List Ch) (hll : ls.length = lm) (g0 : lm ≤ 40) (hlok : ChOK .u8 ls) (hbk : BOK n ls) (hnb : n ≤ 557056) :
 CallsS Try.prog 74 [ς La lm lc] [vw La (chV ls), vws (chL ls)] (fun r D => ∃ (I : Option Addr) (K : Nat) (zs : List Int), r = ς I zs.length K ∧ D = [κ 5 .u8 I zs.length K zs] ∧ (zs = headL (dat ls)) ∧ (zs.length = 256) ∧ (In .u8 zs) ∧ (zs.length ≤ K) ∧ (0 < zs.length → Option.isSome I = true)) := by
 refine CallsS.enter hU Try.f74 _ [.tmp 2] 31 Try.func74 rfl (by decide) rfl rfl (by kernel_rfl) fun w0 W => ?_
 refine RunC.know (p := 0 < ls.length * 2 → Option.isSome La = true) (fun _ _ w hs => vw_some hs 0 rfl (by exact chV_len _)) (fun J => ?_)
 refine RunC.sr ?_
 refine RunR.sl hU [] 1 1 [0, 2] [(0, ς La lm lc), (2, ς0)] 1 ?_
 refine RunR.nx ?_
 refine RunR.st (some 6) (.buildSlice 22 4 #[(0, .const (.int .u8 79)), (1, .const (.int .u8 87)), (2, .const (.int .u8 65)), (3, .const (.int .u8 76))]) (Step.lit_nums hU 5 1 .u8 (.int .u8 0) ([79, 87, 65, 76] : List Int) rfl rfl (by kernel_rfl) rfl rfl (by kernel_rfl) (fun z => ?_))
 have h0 : (([79, 87, 65, 76] : List Int)).length = 4 := rfl
 refine RunR.st (some 7) (.convert 22 22 (.tmp 6)) (Step.mark_bytes hU 5 0 4 4 z ([79, 87, 65, 76] : List Int) rfl rfl (by kernel_rfl) (by kernel_rfl) (by decide) (by kernel_rfl) ?_)
 refine RunR.sil hU [4] 3 5 [0, 2, 7, 10] [(0, ς La lm lc), (2, ς0), (7, ς (ad z) 4 4), (10, .int .u32 (lm : Int))] ((True) ∧ (True) ∧ (0 ≤ (lm : Int) ∧ (lm : Int) < 4294967296) ∧ True) rfl (by kernel_rfl) ⟨trivial, trivial, (by omega), trivial⟩ ?_
 refine RunR.st (some 11) (.call { callee := .value (.func 76), args := #[.tmp 10], argTypes := #[94] }) (Step.cn 76 [.int .u32 (lm : Int)] [] [ν .u8 (ad z) ([79, 87, 65, 76] : List Int), vw La (chV ls), vws (chL ls)] (w_Put32_spec (lm : Int) (by (refine ⟨?_, ?_⟩ <;> omega))) [] ?_)
 rintro _ _ ⟨u, t, a, rfl, rfl, M, f0, i0, b0, N⟩
 refine RunR.st (some 12) (.call { callee := .builtin .append, args := #[.tmp 7, .tmp 11], argTypes := #[22, 22] }) (Step.append_vw hU 5 1 (.int .u8 0) .u8 1 0 (ad z) 4 4 ([79, 87, 65, 76] : List Int) u a.length t (κ 5 .u8 u a.length t a) a rfl rfl rfl (by kernel_rfl) (by kernel_rfl) (by kernel_rfl) (by kernel_rfl) (tells_row _ _ _ _ _ _) (by rfl) (by rfl) (by simp only [List.length_cons, List.length_nil]; omega) (by omega) (by simp only [List.length_cons, List.length_nil]; omega) (by simp only [List.length_cons, List.length_nil]; omega) (by simp only [List.length_cons, List.length_nil]; omega) (by kernel_rfl) (fun j d Y B => ?_))
 have V : (([79, 87, 65, 76] : List Int) ++ a).length = ([79, 87, 65, 76] : List Int).length + a.length := List.length_append
 refine RunR.sl hU [] 1 8 [0, 2, 3] [(0, ς La lm lc), (2, ς0), (3, ς j ((([79, 87, 65, 76] : List Int) ++ a).length) d)] 1 ?_
 refine RunR.nn ?_
 refine RunC.seq ?_
 refine RunC.sr ?_
 refine RunR.sl hU [] 3 3 [2, 3, 13, 14, 15] [(2, ς0), (3, ς j ((([79, 87, 65, 76] : List Int) ++ a).length) d), (13, ς La lm lc), (14, ι (lm : Int)), (15, ι 0)] 3 ?_
 refine RunR.nn ?_
 refine RunC.block ?_
 refine RunC.env [2, 3, 13, 14, 15] [(2, ς0), (3, ς j ((([79, 87, 65, 76] : List Int) ++ a).length) d), (13, ς La lm lc), (14, ι (lm : Int)), (15, ι 0)] (by kernel_rfl) ?_
 refine RunC.only [0, 0, 0, 0, 0] [κ 5 .u8 j ((([79, 87, 65, 76] : List Int) ++ a).length) d (([79, 87, 65, 76] : List Int) ++ a), κ 5 .u8 u a.length t a, ν .u8 (ad z) ([79, 87, 65, 76] : List Int), vw La (chV ls), vws (chL ls)] (by kernel_rfl) ?_
 refine RunC.loop (σ := Nat) (fun n_ t_ D_ => ∃ (i : Int) (os : List Int) (s : Option Addr) (q : Nat), (0 ≤ i) ∧ (i ≤ (lm : Int)) ∧ (os = ([79, 87, 65, 76] ++ leB ((dat ls).length : Int) 4) ++ ((dat ls).take i.toNat).flatMap fun r => leB r.1 4) ∧ (os.length = 8 + 4 * i.toNat) ∧ (In .u8 os) ∧ (os.length ≤ q) ∧ (0 < os.length → Option.isSome s = true) ∧ n_ = ((lm - i).toNat : Nat) ∧ t_ = [(2, ς0), (3, ς s os.length q), (13, ς La lm lc), (14, ι (lm : Int)), (15, ι i)] ∧ D_ = [κ 5 .u8 s os.length q os, κ 5 .u8 u a.length t a, ν .u8 (ad z) ([79, 87, 65, 76] : List Int), vw La (chV ls), vws (chL ls)]) id _ ⟨0, (([79, 87, 65, 76] : List Int) ++ a), j, d, (by omega), (by omega), (by simp only [M, dat_len, hll]; simp), (by omega), (by (repeat first | assumption | (simp only [fits]; omega) | with_reducible first | exact In.nil _ | apply In.append | apply In.cons)), ‹_›, (fun h => B (by exact h)), rfl, rfl, rfl⟩ ?_
 rintro n_ _ _ ⟨i, os, s, q, hi, him, hos, hol, hios, hcos, hAos, rfl, rfl, rfl⟩
 refine RunC.sr ?_
 refine RunR.sl hU [] 1 1 [2, 3, 13, 14, 15, 16] [(2, ς0), (3, ς s os.length q), (13, ς La lm lc), (14, ι (lm : Int)), (15, ι i), (16, η (decide (i < (lm : Int))))] 1 ?_
 refine RunR.nn ?_
 refine RunC.seq ?_
 refine RunC.condp (i < (lm : Int)) (by kernel_rfl) (fun L => ?_) (fun L => ?_)
 ·refine RunC.ks ?_
  refine RunC.seq ?_
  refine RunC.block ?_
  refine RunC.sr ?_
  refine RunR.sil hU [] 1 1 [2, 3, 13, 14, 15, 17] [(2, ς0), (3, ς s os.length q), (13, ς La lm lc), (14, ι (lm : Int)), (15, ι i), (17, .pointer (elemAt La i 2))] (((0 ≤ i ∧ i < (lm : Int)) ∧ Option.isSome La = true) ∧ True) rfl (by kernel_rfl) ⟨⟨by omega, J (by omega)⟩, trivial⟩ ?_
  obtain ⟨c, g, e, f, y, G, X, P, a0⟩ := ch_at (by assumption : ChOK .u8 ls) (i := (i).toNat) (by omega)
  have E := G; simp only [fits] at E
  have e0 := bok_at hbk y
  refine RunR.st (some 18) (.load 97 (.tmp 17)) (Step.load_of hU 3 (vw La (chV ls)) La i 2 (chV ls) (.agg #[ι c, ς g f.length e]) (by kernel_rfl) (by kernel_rfl) (tells_vw _ _) (loadv_ch (by kernel_rfl) (by kernel_rfl) y) (by kernel_rfl) (by rw [chV_len]; omega) ?_)
  refine RunR.st (some 5) (.alloc 97) (Step.al hU 2 32 (.agg #[ι 0, ς0]) (fun v => ?_))
  refine RunR.st none (.store 97 (.tmp 5) (.tmp 18)) (Step.store_blk hU 0 v 0 97 [ι 0, ς0] (.agg #[ι c, ς g f.length e]) (by kernel_rfl) (by kernel_rfl) (by kernel_rfl) 2 rfl [ι c, ς g f.length e] (by kernel_rfl) rfl (by kernel_rfl) (by decide) ?_)
  refine RunR.nn ?_
  refine RunC.region ?_
  refine RunR.sl hU [] 2 2 [2, 3, 13, 14, 15, 19, 20] [(2, ς0), (3, ς s os.length q), (13, ς La lm lc), (14, ι (lm : Int)), (15, ι i), (19, ς s os.length q), (20, pt v)] 2 ?_
  refine RunR.st (some 21) (.load 3 (.tmp 20)) (Step.load_blk hU 0 v (0) 97 [ι c, ς g f.length e] (ι c) (by kernel_rfl) (by kernel_rfl) (by kernel_rfl) (by kernel_rfl) ?_)
  refine RunR.sil hU [3] 1 4 [2, 3, 13, 14, 15, 19, 22] [(2, ς0), (3, ς s os.length q), (13, ς La lm lc), (14, ι (lm : Int)), (15, ι i), (19, ς s os.length q), (22, .int .u32 c)] ((0 ≤ c ∧ c < 4294967296) ∧ True) rfl (by kernel_rfl) ⟨(by omega), trivial⟩ ?_
  refine RunR.st (some 23) (.call { callee := .value (.func 76), args := #[.tmp 22], argTypes := #[94] }) (Step.cn 76 [.int .u32 c] [] [blk v 97 [ι c, ς g f.length e], κ 5 .u8 s os.length q os, κ 5 .u8 u a.length t a, ν .u8 (ad z) ([79, 87, 65, 76] : List Int), vw La (chV ls), vws (chL ls)] (w_Put32_spec c (by (refine ⟨?_, ?_⟩ <;> omega))) [] ?_)
  rintro _ _ ⟨x, A, b, rfl, rfl, H, R, Z, c0, O⟩
  refine RunR.st (some 24) (.call { callee := .builtin .append, args := #[.tmp 19, .tmp 23], argTypes := #[22, 22] }) (Step.append_nums hU 5 1 (.int .u8 0) .u8 2 0 s os.length q os x b.length A (κ 5 .u8 x b.length A b) b rfl rfl rfl (by kernel_rfl) (by kernel_rfl) (by kernel_rfl) (by kernel_rfl) (tells_row _ _ _ _ _ _) (by rfl) (by rfl) (by omega) (by omega) (by kernel_rfl) (fun l k T C => ?_))
  have Q : (os ++ b).length = os.length + b.length := List.length_append
  refine RunR.sl hU [] 1 7 [2, 3, 13, 14, 15] [(2, ς0), (3, ς l ((os ++ b).length) k), (13, ς La lm lc), (14, ι (lm : Int)), (15, ι i)] 1 ?_
  refine RunR.dn ?_
  refine kblock_n ?_
  refine kseq_n ?_
  refine RunC.region ?_
  refine RunR.sil hU [0] 2 2 [2, 3, 13, 14, 15] [(2, ς0), (3, ς l ((os ++ b).length) k), (13, ς La lm lc), (14, ι (lm : Int)), (15, ι (i + 1))] ((-9223372036854775808 ≤ (i + 1) ∧ (i + 1) < 9223372036854775808) ∧ (True) ∧ True) rfl (by kernel_rfl) ⟨(by omega), trivial, trivial⟩ ?_
  refine RunR.dn ?_
  refine kloop_n _ [2, 3, 13, 14, 15] [0, 2, 2, 2, 2] [(2, ς0), (3, ς l ((os ++ b).length) k), (13, ς La lm lc), (14, ι (lm : Int)), (15, ι (i + 1))] [κ 5 .u8 l ((os ++ b).length) k (os ++ b), κ 5 .u8 u a.length t a, ν .u8 (ad z) ([79, 87, 65, 76] : List Int), vw La (chV ls), vws (chL ls)] (by kernel_rfl) (by kernel_rfl) ?_ ⟨(i + 1), (os ++ b), l, k, (by omega), ‹_›, (by rw [hos, H, List.append_assoc, flat_take (dat_get ‹_›), show (i + 1).toNat = i.toNat + 1 by omega]), (by rw [List.length_append]; omega), (by (repeat first | assumption | with_reducible apply In.append)), ‹_›, (fun h => C (by exact h)), rfl, (by rfl), (by rfl)⟩
  show ((lm - (i + 1)).toNat : Nat) < ((lm - i).toNat : Nat)
  omega
 refine RunC.exit ?_
 refine kseq_e ?_
 refine kloop_e ?_
 refine kblock_e ?_
 refine kseq_n ?_
 refine RunC.sr ?_
 refine RunR.sil hU [3] 4 4 [2, 26, 29] [(2, ς0), (26, ς s os.length q), (29, ι (256 - (os.length : Int)))] ((True) ∧ (True) ∧ (True) ∧ (-9223372036854775808 ≤ (256 - (os.length : Int)) ∧ (256 - (os.length : Int)) < 9223372036854775808) ∧ True) rfl (by kernel_rfl) ⟨trivial, trivial, trivial, (by omega), trivial⟩ ?_
 refine RunR.st (some 30) (.call { callee := .builtin .append, args := #[.tmp 26, .tmp 29], argTypes := #[22, 3] }) (Step.append_zeros hU 5 1 .u8 .i64 .i64 0 s os.length q os (256 - (os.length : Int)) rfl rfl rfl (by kernel_rfl) (by kernel_rfl) (by kernel_rfl) (by rfl) (by omega) (by omega) (by omega) (by kernel_rfl) (fun o m S F => ?_))
 have d0 : (os ++ List.replicate ((256 - (os.length : Int)).toNat) (0 : Int)).length = os.length + (256 - (os.length : Int)).toNat := by rw [List.length_append, List.length_replicate]
 refine RunR.sl hU [] 1 6 [2] [(2, ς o ((os ++ List.replicate ((256 - (os.length : Int)).toNat) (0 : Int)).length) m)] 1 ?_
 refine RunR.nn ?_
 refine RunC.ret ?_
 refine kret_r [ς o ((os ++ List.replicate ((256 - (os.length : Int)).toNat) (0 : Int)).length) m] [0] [κ 5 .u8 o ((os ++ List.replicate ((256 - (os.length : Int)).toNat) (0 : Int)).length) m (os ++ List.replicate ((256 - (os.length : Int)).toNat) (0 : Int))] ⟨rfl, trivial⟩ (by kernel_rfl) rfl ⟨o, m, (os ++ List.replicate ((256 - (os.length : Int)).toNat) (0 : Int)), rfl, rfl, (by exact head_end hos (by rw [dat_len]; omega) (by rw [dat_len]; omega)), (by rw [List.length_append, List.length_replicate]; omega), (by (repeat first | assumption | with_reducible first | exact In.replicate _ _ | apply In.append)), ‹_›, (fun h => F (by exact h))⟩
theorem wl_logged_spec (wj : Nat) (d : Nat) (A : Option Addr) (n : Nat) (c : Nat) (ss : List Int) (Wa : Option Addr) (m : Nat) (wc : Nat) (ws : List Ch) (lf : Int) (dn : Bool) (hss : In .u8 ss) (hnl : ss.length = n) (hnc : n ≤ c) (hAs : 0 < n → Option.isSome A = true) (z0 : n % 256 = 0) (hnb : n ≤ 557056) (hml : ws.length = m) (hmb : m ≤ 900000) (hok : ChOK .u8 ws) (hwk : WOK n ws) (hWs : 0 < m → Option.isSome Wa = true) (u0 : 256 * 43 ≤ n) :
 CallsS Try.prog 26 [pt wj] (blk wj 71 [pt d] :: δ d A n c ss Wa m wc ws lf dn []) (fun r D => ∃ (La : Option Addr) (lm : Nat) (lc : Nat) (ls : List Ch), r = ς La lm lc ∧ D = (ξ La lm lc ls :: chd .u8 ls :: blk wj 71 [pt d] :: δ d A n c ss Wa m wc ws lf dn []) ∧ (dat ls = logged n ss (dat ws)) ∧ (ls.length = lm) ∧ (lm ≤ 40) ∧ (ChOK .u8 ls) ∧ (BOK n ls) ∧ (0 < lm → Option.isSome La = true)) := by
 refine CallsS.enter hU Try.f26 _ [.tmp 2] 73 Try.func26 rfl (by decide) rfl rfl (by kernel_rfl) fun X W => ?_
 refine RunC.sr ?_
 refine RunR.sl hU [] 1 1 [0, 2] [(0, pt wj), (2, ς0)] 1 ?_
 refine RunR.nx ?_
 refine RunR.sl hU [] 3 3 [0, 2, 14] [(0, pt wj), (2, ς0), (14, pt wj)] 3 ?_
 refine RunR.st (some 15) (.load 26 (.tmp 14)) (Step.load_blk hU 0 wj (0) 71 [pt d] (pt d) (by kernel_rfl) (by kernel_rfl) (by kernel_rfl) (by kernel_rfl) ?_)
 refine RunR.st (some 16) (.call { callee := .value (.func 45), args := #[.tmp 15, .const (ι 0)], argTypes := #[26, 3] }) (Step.cn 45 [pt d, ι 0] (δ d A n c ss Wa m wc ws lf dn []) [blk wj 71 [pt d]] (d_Read_spec d A n c ss Wa m wc ws lf dn 0 hss ‹_› ‹_› (fun h => hAs (by exact h)) ‹_› ‹_› ‹_› (by omega) ‹_› ‹_› (fun h => hWs (by exact h)) (by (refine ⟨?_, ?_⟩ <;> omega))) [1, 1, 1, 1] ?_)
 rintro _ _ ⟨f, e, a, e4, rfl, rfl, d0, K, y0, L⟩
 obtain ⟨q0, t0, f0⟩ := read_ok d0 (by omega) (by omega)
 refine RunR.sl hU [] 5 10 [0, 2, 3] [(0, pt wj), (2, ς0), (3, ς f a.length e)] 5 ?_
 refine RunR.nx ?_
 refine RunR.sil hU [] 2 2 [0, 2, 3, 20] [(0, pt wj), (2, ς0), (3, ς f a.length e), (20, ς (subBase f 4 e 1) (a.length - 4) (e - 4))] ((True) ∧ (0 ≤ (4 : Int) ∧ (4 : Int) ≤ (a.length : Int)) ∧ True) rfl (by kernel_rfl) ⟨trivial, (by omega), trivial⟩ ?_
 obtain ⟨t, E⟩ : ∃ z : List Int, z = (a.drop 4).take (a.length - 4) := ⟨_, rfl⟩
 have S : t.length = a.length - 4 := by rw [E, List.length_take, List.length_drop]; omega
 have H : Tells (κ 5 .u8 f a.length e a) (subBase f 4 e 1) (nums .u8 t) := by rw [E]; exact tells_sub_nums (tells_row _ _ _ _ _ _) _ _ _ (by omega) (by omega)
 have g0 : 0 < t.length → Option.isSome (subBase f 4 e 1) = true := fun h => part_some (L (by omega)) _ _ _
 refine RunR.ev [0, 2, 3, 20] [(0, pt wj), (2, ς0), (3, ς f a.length e), (20, ς (subBase f 4 e 1) (a.length - 4) (e - 4))] ?_
 refine RunR.enveq [(0, pt wj), (2, ς0), (3, ς f a.length e), (20, ς (subBase f 4 e 1) t.length (e - 4))] (by rw [S]) ?_
 have P : In .u8 t := by rw [E]; exact (K.drop _).take _
 refine RunR.st (some 21) (.call { callee := .value (.func 49), args := #[.tmp 20], argTypes := #[22] }) (Step.cl 49 [ς (subBase f 4 e 1) t.length (e - 4)] [] [ν .u8 (subBase f 4 e 1) t] (κ 5 .u8 f a.length e a :: δ d A n c ss Wa m wc ws lf dn [blk wj 71 [pt d]]) (w_Get32_spec (subBase f 4 e 1) (e - 4) t t.length P (by omega) (by rfl)) [] ((Lend.nil _).tells 0 (κ 5 .u8 f a.length e a) (subBase f 4 e 1) (nums .u8 t) (by kernel_rfl) (H)) ?_)
 rintro _ _ ⟨g, rfl, rfl, p0, i0⟩
 refine RunR.sil hU [3] 2 5 [0, 2, 3, 5] [(0, pt wj), (2, ς0), (3, ς f a.length e), (5, ι g)] ((-9223372036854775808 ≤ g ∧ g < 9223372036854775808) ∧ (True) ∧ True) rfl (by kernel_rfl) ⟨(by omega), trivial, trivial⟩ ?_
 refine RunR.nn ?_
 refine RunC.seq ?_
 refine RunC.sr ?_
 refine RunR.sl hU [] 1 1 [0, 2, 3, 5, 23] [(0, pt wj), (2, ς0), (3, ς f a.length e), (5, ι g), (23, ς f a.length e)] 1 ?_
 refine RunR.st (some 24) (.buildSlice 22 4 #[(0, .const (.int .u8 79)), (1, .const (.int .u8 87)), (2, .const (.int .u8 65)), (3, .const (.int .u8 76))]) (Step.lit_nums hU 5 1 .u8 (.int .u8 0) ([79, 87, 65, 76] : List Int) rfl rfl (by kernel_rfl) rfl rfl (by kernel_rfl) (fun p => ?_))
 have o0 : (([79, 87, 65, 76] : List Int)).length = 4 := rfl
 refine RunR.st (some 25) (.convert 22 22 (.tmp 24)) (Step.mark_bytes hU 5 0 4 4 p ([79, 87, 65, 76] : List Int) rfl rfl (by kernel_rfl) (by kernel_rfl) (by decide) (by kernel_rfl) ?_)
 refine RunR.st (some 26) (.call { callee := .value (.func 50), args := #[.tmp 23, .tmp 25], argTypes := #[22, 22] }) (Step.cl 50 [ς f a.length e, ς (ad p) 4 4] [] [ν .u8 f a, ν .u8 (ad p) ([79, 87, 65, 76] : List Int)] (ν .u8 (ad p) ([79, 87, 65, 76] : List Int) :: κ 5 .u8 f a.length e a :: δ d A n c ss Wa m wc ws lf dn [blk wj 71 [pt d]]) (b_HasPrefix_spec f e a (ad p) 4 ([79, 87, 65, 76] : List Int) a.length 4 K (by (repeat first | (simp only [fits]; omega) | with_reducible first | exact In.nil _ | apply In.cons)) ‹_› (by rfl) (by rfl)) [] (((Lend.nil _).tells 0 (ν .u8 (ad p) ([79, 87, 65, 76] : List Int)) (ad p) (nums .u8 ([79, 87, 65, 76] : List Int)) (by kernel_rfl) (tells_vw _ _)).tells 1 (κ 5 .u8 f a.length e a) f (nums .u8 a) (by kernel_rfl) (tells_row _ _ _ _ _ _)) ?_)
 rintro _ _ ⟨rfl, rfl⟩
 refine RunR.sl hU [] 2 6 [0, 2, 3, 5, 28] [(0, pt wj), (2, ς0), (3, ς f a.length e), (5, ι g), (28, η (!decide (a.take ([79, 87, 65, 76] : List Int).length = ([79, 87, 65, 76] : List Int))))] 2 ?_
 refine RunR.ev [0, 2, 3, 5, 28] [(0, pt wj), (2, ς0), (3, ς f a.length e), (5, ι g), (28, η (!decide (a.take ([79, 87, 65, 76] : List Int).length = ([79, 87, 65, 76] : List Int))))] ?_
 by_cases h22 : a.take ([79, 87, 65, 76] : List Int).length = ([79, 87, 65, 76] : List Int)
 ·refine RunR.enveq [(0, pt wj), (2, ς0), (3, ς f a.length e), (5, ι g), (28, η false)] (by rw [decide_eq_true h22]; try rfl) ?_
  refine RunR.sl hU [] 4 10 [0, 2, 3, 5, 32] [(0, pt wj), (2, ς0), (3, ς f a.length e), (5, ι g), (32, η (decide (g < 1)))] 4 ?_
  refine RunR.ev [0, 2, 3, 5, 32] [(0, pt wj), (2, ς0), (3, ς f a.length e), (5, ι g), (32, η (decide (g < 1)))] ?_
  by_cases h23 : g < 1
  ·refine RunR.enveq [(0, pt wj), (2, ς0), (3, ς f a.length e), (5, ι g), (32, η true)] (by rw [decide_eq_true h23]; try rfl) ?_
   refine RunR.sl hU [] 3 13 [0, 2, 3, 5, 35] [(0, pt wj), (2, ς0), (3, ς f a.length e), (5, ι g), (35, η true)] 1 ?_
   refine RunR.nn ?_
   refine RunC.cond (b := true) (by kernel_rfl) (fun _ => ?_) (fun h => by cases h)
   refine RunC.sr ?_
   refine RunR.sl hU [] 1 1 [0, 2, 3, 5] [(0, pt wj), (2, ς0), (3, ς f a.length e), (5, ι g)] 1 ?_
   refine RunR.nn ?_
   refine RunC.ret ?_
   refine kseq_r ?_
   refine kret_rt ((chd .u8 ([] : List Ch) :: ξ none 0 0 ([] : List Ch) :: ν .u8 (ad p) ([79, 87, 65, 76] : List Int) :: κ 5 .u8 f a.length e a :: δ d A n c ss Wa m wc ws lf dn [blk wj 71 [pt d]])) (fun X W w hs => ((hs).nil_row 97 2).chd0 .u8) [ς0] [1, 0, 6, 2, 2, 2, 2] (ξ none 0 0 ([] : List Ch) :: chd .u8 ([] : List Ch) :: blk wj 71 [pt d] :: δ d A n c ss Wa m wc ws lf dn []) ⟨rfl, trivial⟩ (by kernel_rfl) rfl ⟨none, 0, 0, ([] : List Ch), rfl, rfl, (by exact logged_few ‹_› ‹_› ‹_› (by omega) (by omega)), (by rfl), (by omega), (by exact ChOK.nil _), (by exact BOK.nil _), (by intro h; omega)⟩
  refine RunR.enveq [(0, pt wj), (2, ς0), (3, ς f a.length e), (5, ι g), (32, η false)] (by rw [decide_eq_false h23]; try rfl) ?_
  refine RunR.sl hU [] 3 13 [0, 2, 3, 5, 35] [(0, pt wj), (2, ς0), (3, ς f a.length e), (5, ι g), (35, η (decide (g > 40)))] 3 ?_
  refine RunR.nn ?_
  refine RunC.condp (g > 40) (by kernel_rfl) (fun a0 => ?_) (fun a0 => ?_)
  ·refine RunC.sr ?_
   refine RunR.sl hU [] 1 1 [0, 2, 3, 5] [(0, pt wj), (2, ς0), (3, ς f a.length e), (5, ι g)] 1 ?_
   refine RunR.nn ?_
   refine RunC.ret ?_
   refine kseq_r ?_
   refine kret_rt ((chd .u8 ([] : List Ch) :: ξ none 0 0 ([] : List Ch) :: ν .u8 (ad p) ([79, 87, 65, 76] : List Int) :: κ 5 .u8 f a.length e a :: δ d A n c ss Wa m wc ws lf dn [blk wj 71 [pt d]])) (fun X W w hs => ((hs).nil_row 97 2).chd0 .u8) [ς0] [1, 0, 6, 2, 2, 2, 2] (ξ none 0 0 ([] : List Ch) :: chd .u8 ([] : List Ch) :: blk wj 71 [pt d] :: δ d A n c ss Wa m wc ws lf dn []) ⟨rfl, trivial⟩ (by kernel_rfl) rfl ⟨none, 0, 0, ([] : List Ch), rfl, rfl, (by exact logged_few ‹_› ‹_› ‹_› (by omega) (by omega)), (by rfl), (by omega), (by exact ChOK.nil _), (by exact BOK.nil _), (by intro h; omega)⟩
  refine RunC.ksr ?_
  refine RunR.sl hU [] 1 1 [0, 2, 3, 5, 6] [(0, pt wj), (2, ς0), (3, ς f a.length e), (5, ι g), (6, ς0)] 1 ?_
  refine RunR.nn ?_
  refine RunC.seq ?_
  refine RunC.sr ?_
  refine RunR.sl hU [] 2 2 [0, 2, 3, 6, 36, 37] [(0, pt wj), (2, ς0), (3, ς f a.length e), (6, ς0), (36, ι g), (37, ι 0)] 2 ?_
  refine RunR.nn ?_
  refine RunC.block ?_
  refine RunC.turn ((ξ none 0 0 ([] : List Ch) :: ν .u8 (ad p) ([79, 87, 65, 76] : List Int) :: κ 5 .u8 f a.length e a :: δ d A n c ss Wa m wc ws lf dn [blk wj 71 [pt d]])) (fun _ _ w hs => hs.nil_row 97 2) ?_
  refine RunC.turn ((chd .u8 ([] : List Ch) :: ξ none 0 0 ([] : List Ch) :: ν .u8 (ad p) ([79, 87, 65, 76] : List Int) :: κ 5 .u8 f a.length e a :: δ d A n c ss Wa m wc ws lf dn [blk wj 71 [pt d]])) (fun _ _ w hs => hs.chd0 .u8) ?_
  refine RunC.env [0, 3, 6, 36, 37] [(0, pt wj), (3, ς f a.length e), (6, ς0), (36, ι g), (37, ι 0)] (by kernel_rfl) ?_
  refine RunC.only [1, 0, 0, 0, 0, 0, 0, 0, 0] (ξ none 0 0 ([] : List Ch) :: chd .u8 ([] : List Ch) :: ν .u8 (ad p) ([79, 87, 65, 76] : List Int) :: κ 5 .u8 f a.length e a :: δ d A n c ss Wa m wc ws lf dn [blk wj 71 [pt d]]) (by kernel_rfl) ?_
  refine RunC.loop (σ := Nat) (fun n_ t_ D_ => ∃ (i : Int) (x : List Ch) (u : Option Addr) (q : Nat) (v : Nat), (0 ≤ i) ∧ (i ≤ g) ∧ (dat x = entries ss (dat ws) i.toNat) ∧ (x.length = q) ∧ ((q : Int) = i) ∧ (ChOK .u8 x) ∧ (BOK n x) ∧ (0 < q → Option.isSome u = true) ∧ n_ = ((g - i).toNat : Nat) ∧ t_ = [(0, pt wj), (3, ς f a.length e), (6, ς u q v), (36, ι g), (37, ι i)] ∧ D_ = (ξ u q v x :: chd .u8 x :: ν .u8 (ad p) ([79, 87, 65, 76] : List Int) :: κ 5 .u8 f a.length e a :: δ d A n c ss Wa m wc ws lf dn [blk wj 71 [pt d]])) id _ ⟨0, ([] : List Ch), none, 0, 0, (by omega), (by omega), (by rfl), (by rfl), (by omega), (by exact ChOK.nil _), (by exact BOK.nil _), (by intro h; omega), rfl, rfl, rfl⟩ ?_
  rintro n_ _ _ ⟨i, x, u, q, v, hi, hik, R, N, v0, Q, J, x0, rfl, rfl, rfl⟩
  refine RunC.sr ?_
  refine RunR.sl hU [] 1 1 [0, 3, 6, 36, 37, 38] [(0, pt wj), (3, ς f a.length e), (6, ς u q v), (36, ι g), (37, ι i), (38, η (decide (i < g)))] 1 ?_
  refine RunR.nn ?_
  refine RunC.seq ?_
  refine RunC.condp (i < g) (by kernel_rfl) (fun Y => ?_) (fun Y => ?_)
  ·refine RunC.ks ?_
   refine RunC.seq ?_
   refine RunC.block ?_
   refine RunC.sr ?_
   refine RunR.sl hU [] 2 2 [0, 3, 6, 7, 36, 37] [(0, pt wj), (3, ς f a.length e), (6, ς u q v), (7, ι i), (36, ι g), (37, ι i)] 2 ?_
   refine RunR.nx ?_
   refine RunR.sil hU [2, 3] 5 5 [0, 3, 6, 7, 36, 37, 44] [(0, pt wj), (3, ς f a.length e), (6, ς u q v), (7, ι i), (36, ι g), (37, ι i), (44, ς (subBase f ((8 + (4 * i)).toNat) e 1) (a.length - ((8 + (4 * i)).toNat)) (e - ((8 + (4 * i)).toNat)))] ((True) ∧ (True) ∧ (-9223372036854775808 ≤ (4 * i) ∧ (4 * i) < 9223372036854775808) ∧ (-9223372036854775808 ≤ (8 + (4 * i)) ∧ (8 + (4 * i)) < 9223372036854775808) ∧ (0 ≤ (8 + (4 * i)) ∧ (8 + (4 * i)) ≤ (a.length : Int)) ∧ True) rfl (by kernel_rfl) ⟨trivial, trivial, (by omega), (by omega), (by omega), trivial⟩ ?_
   obtain ⟨s, C⟩ : ∃ z : List Int, z = (a.drop ((8 + (4 * i)).toNat)).take (a.length - ((8 + (4 * i)).toNat)) := ⟨_, rfl⟩
   have M : s.length = a.length - ((8 + (4 * i)).toNat) := by rw [C, List.length_take, List.length_drop]; omega
   have I : Tells (κ 5 .u8 f a.length e a) (subBase f ((8 + (4 * i)).toNat) e 1) (nums .u8 s) := by rw [C]; exact tells_sub_nums (tells_row _ _ _ _ _ _) _ _ _ (by omega) (by omega)
   have r0 : 0 < s.length → Option.isSome (subBase f ((8 + (4 * i)).toNat) e 1) = true := fun h => part_some (L (by omega)) _ _ _
   refine RunR.ev [0, 3, 6, 7, 36, 37, 44] [(0, pt wj), (3, ς f a.length e), (6, ς u q v), (7, ι i), (36, ι g), (37, ι i), (44, ς (subBase f ((8 + (4 * i)).toNat) e 1) (a.length - ((8 + (4 * i)).toNat)) (e - ((8 + (4 * i)).toNat)))] ?_
   refine RunR.enveq [(0, pt wj), (3, ς f a.length e), (6, ς u q v), (7, ι i), (36, ι g), (37, ι i), (44, ς (subBase f ((8 + (4 * i)).toNat) e 1) s.length (e - ((8 + (4 * i)).toNat)))] (by rw [M]) ?_
   have V : In .u8 s := by rw [C]; exact (K.drop _).take _
   refine RunR.st (some 45) (.call { callee := .value (.func 49), args := #[.tmp 44], argTypes := #[22] }) (Step.cl 49 [ς (subBase f ((8 + (4 * i)).toNat) e 1) s.length (e - ((8 + (4 * i)).toNat))] [] [ν .u8 (subBase f ((8 + (4 * i)).toNat) e 1) s] (ξ u q v x :: chd .u8 x :: ν .u8 (ad p) ([79, 87, 65, 76] : List Int) :: κ 5 .u8 f a.length e a :: δ d A n c ss Wa m wc ws lf dn [blk wj 71 [pt d]]) (w_Get32_spec (subBase f ((8 + (4 * i)).toNat) e 1) (e - ((8 + (4 * i)).toNat)) s s.length V (by omega) (by rfl)) [] ((Lend.nil _).tells 3 (κ 5 .u8 f a.length e a) (subBase f ((8 + (4 * i)).toNat) e 1) (nums .u8 s) (by kernel_rfl) (I)) ?_)
   rintro _ _ ⟨o, rfl, rfl, l0, s0⟩
   refine RunR.sil hU [6] 2 8 [0, 3, 6, 7, 8, 36, 37] [(0, pt wj), (3, ς f a.length e), (6, ς u q v), (7, ι i), (8, ι o), (36, ι g), (37, ι i)] ((-9223372036854775808 ≤ o ∧ o < 9223372036854775808) ∧ (True) ∧ True) rfl (by kernel_rfl) ⟨(by omega), trivial, trivial⟩ ?_
   refine RunR.nx ?_
   refine RunR.sl hU [] 3 3 [0, 3, 6, 7, 8, 36, 37, 50] [(0, pt wj), (3, ς f a.length e), (6, ς u q v), (7, ι i), (8, ι o), (36, ι g), (37, ι i), (50, pt wj)] 3 ?_
   refine RunR.st (some 51) (.load 26 (.tmp 50)) (Step.load_blk hU 8 wj (0) 71 [pt d] (pt d) (by kernel_rfl) (by kernel_rfl) (by kernel_rfl) (by kernel_rfl) ?_)
   refine RunR.sil hU [5] 2 6 [0, 3, 6, 8, 36, 37, 51, 53] [(0, pt wj), (3, ς f a.length e), (6, ς u q v), (8, ι o), (36, ι g), (37, ι i), (51, pt d), (53, ι (1 + i))] ((True) ∧ (-9223372036854775808 ≤ (1 + i) ∧ (1 + i) < 9223372036854775808) ∧ True) rfl (by kernel_rfl) ⟨trivial, (by omega), trivial⟩ ?_
   refine RunR.st (some 54) (.call { callee := .value (.func 45), args := #[.tmp 51, .tmp 53], argTypes := #[26, 3] }) (Step.cn 45 [pt d, ι (1 + i)] (δ d A n c ss Wa m wc ws lf dn []) [ξ u q v x, chd .u8 x, ν .u8 (ad p) ([79, 87, 65, 76] : List Int), κ 5 .u8 f a.length e a, blk wj 71 [pt d]] (d_Read_spec d A n c ss Wa m wc ws lf dn (1 + i) hss ‹_› ‹_› (fun h => hAs (by exact h)) ‹_› ‹_› ‹_› (by omega) ‹_› ‹_› (fun h => hWs (by exact h)) (by (refine ⟨?_, ?_⟩ <;> omega))) [4, 4, 4, 4] ?_)
   rintro _ _ ⟨l, k, j, G, rfl, rfl, O, h0, k0, j0⟩
   obtain ⟨b0, Z, c0⟩ := read_ok O (by omega) (by omega)
   refine RunR.sl hU [] 5 12 [0, 3, 6, 8, 9, 10, 36, 37] [(0, pt wj), (3, ς f a.length e), (6, ς u q v), (8, ι o), (9, ς l j.length k), (10, ι G), (36, ι g), (37, ι i)] 5 ?_
   refine RunR.nn ?_
   refine RunC.seq ?_
   refine RunC.sr ?_
   refine RunR.sl hU [] 3 3 [0, 3, 6, 8, 9, 36, 37, 59] [(0, pt wj), (3, ς f a.length e), (6, ς u q v), (8, ι o), (9, ς l j.length k), (36, ι g), (37, ι i), (59, η (!decide (G = 0)))] 3 ?_
   refine RunR.ev [0, 3, 6, 8, 9, 36, 37, 59] [(0, pt wj), (3, ς f a.length e), (6, ς u q v), (8, ι o), (9, ς l j.length k), (36, ι g), (37, ι i), (59, η (!decide (G = 0)))] ?_
   have T : (G = 0) := by assumption
   refine RunR.enveq [(0, pt wj), (3, ς f a.length e), (6, ς u q v), (8, ι o), (9, ς l j.length k), (36, ι g), (37, ι i), (59, η false)] (by rw [decide_eq_true T]; try rfl) ?_
   refine RunR.sl hU [] 2 5 [0, 3, 6, 8, 9, 36, 37, 59, 60, 61] [(0, pt wj), (3, ς f a.length e), (6, ς u q v), (8, ι o), (9, ς l j.length k), (36, ι g), (37, ι i), (59, η false), (60, pt wj), (61, ι o)] 2 ?_
   refine RunR.st (some 62) (.call { callee := .value (.func 44), args := #[.tmp 60, .tmp 61], argTypes := #[40, 3] }) (Step.cn 44 [pt wj, ι o] [blk wj 71 [pt d], blk d 47 [ς A n c, ς Wa m wc, ι lf, η dn]] [κ 5 .u8 l j.length k j, κ 5 .u8 A n c ss, ξ Wa m wc ws, chd .u8 ws, ξ u q v x, chd .u8 x, ν .u8 (ad p) ([79, 87, 65, 76] : List Int), κ 5 .u8 f a.length e a] (wl_there_spec wj d A n c Wa m wc lf dn o ‹_› ‹_›) [9, 1] ?_)
   rintro _ _ ⟨rfl, rfl⟩
   refine RunR.sl hU [] 2 8 [0, 3, 6, 8, 9, 36, 37, 64] [(0, pt wj), (3, ς f a.length e), (6, ς u q v), (8, ι o), (9, ς l j.length k), (36, ι g), (37, ι i), (64, η (!decide (0 ≤ o ∧ 256 * (42 + o) + 256 ≤ (n : Int))))] 2 ?_
   refine RunR.nn ?_
   refine RunC.condn (0 ≤ o ∧ 256 * (42 + o) + 256 ≤ (n : Int)) (by kernel_rfl) (fun e0 => ?_) (fun e0 => ?_)
   ·refine RunC.sr ?_
    refine RunR.sl hU [] 1 1 [0, 2, 3, 6, 8, 9, 36, 37] [(0, pt wj), (2, ς0), (3, ς f a.length e), (6, ς u q v), (8, ι o), (9, ς l j.length k), (36, ι g), (37, ι i)] 1 ?_
    refine RunR.nn ?_
    refine RunC.ret ?_
    refine kseq_r ?_
    refine kblock_r ?_
    refine kseq_r ?_
    refine kloop_r ?_
    refine kblock_r ?_
    refine kseq_r ?_
    refine kret_rt ([chd .u8 ([] : List Ch), ξ none 0 0 ([] : List Ch), blk wj 71 [pt d], blk d 47 [ς A n c, ς Wa m wc, ι lf, η dn], κ 5 .u8 l j.length k j, κ 5 .u8 A n c ss, ξ Wa m wc ws, chd .u8 ws, ξ u q v x, chd .u8 x, ν .u8 (ad p) ([79, 87, 65, 76] : List Int), κ 5 .u8 f a.length e a]) (fun X W w hs => ((hs).nil_row 97 2).chd0 .u8) [ς0] [1, 0, 0, 0, 1, 1, 1] (ξ none 0 0 ([] : List Ch) :: chd .u8 ([] : List Ch) :: blk wj 71 [pt d] :: δ d A n c ss Wa m wc ws lf dn []) ⟨rfl, trivial⟩ (by kernel_rfl) rfl ⟨none, 0, 0, ([] : List Ch), rfl, rfl, (by exact logged_badI ‹_› ‹_› ‹_› ‹_› ‹_› ‹_› (by omega) (by omega) ‹_› ‹_› ‹_› ‹_› ‹_›), (by rfl), (by omega), (by exact ChOK.nil _), (by exact BOK.nil _), (by intro h; omega)⟩
   refine RunC.ks ?_
   refine RunC.region ?_
   refine RunR.sl hU [] 4 4 [0, 3, 6, 36, 37, 65, 68] [(0, pt wj), (3, ς f a.length e), (6, ς u q v), (36, ι g), (37, ι i), (65, ς u q v), (68, .agg #[ι o, ς l j.length k])] 4 ?_
   refine RunR.st (some 69) (.buildSlice 45 1 #[(0, .tmp 68)]) (Step.lit_pair hU 97 32 (.agg #[ι 0, ς0]) (ι o) (ς l j.length k) (by kernel_rfl) (by kernel_rfl) (by kernel_rfl) rfl rfl (by kernel_rfl) (fun F => ?_))
   refine RunR.turn ([ξ (ad F) 1 1 ([(o, l, k, j)] : List Ch), blk wj 71 [pt d], blk d 47 [ς A n c, ς Wa m wc, ι lf, η dn], κ 5 .u8 l j.length k j, κ 5 .u8 A n c ss, ξ Wa m wc ws, chd .u8 ws, ξ u q v x, chd .u8 x, ν .u8 (ad p) ([79, 87, 65, 76] : List Int), κ 5 .u8 f a.length e a]) (fun _ _ w hs => hs) ?_
   refine RunR.st (some 70) (.call { callee := .builtin .append, args := #[.tmp 65, .tmp 69], argTypes := #[45, 45] }) (Step.append_ch hU 97 32 (.agg #[ι 0, ς0]) 7 0 u q v x (ad F) 1 1 (ξ (ad F) 1 1 ([(o, l, k, j)] : List Ch)) ([(o, l, k, j)] : List Ch) (by kernel_rfl) (by kernel_rfl) (by kernel_rfl) (by kernel_rfl) (by kernel_rfl) (by kernel_rfl) (by kernel_rfl) (tells_row _ _ _ _ _ _) rfl (by omega) (by omega) (by kernel_rfl) (fun y B n0 m0 => ?_))
   refine RunR.turn ((chd .u8 (x ++ ([(o, l, k, j)] : List Ch)) :: ξ y (q + 1) B (x ++ ([(o, l, k, j)] : List Ch)) :: ξ (ad F) 1 1 ([(o, l, k, j)] : List Ch) :: blk wj 71 [pt d] :: δ d A n c ss Wa m wc ws lf dn [ν .u8 (ad p) ([79, 87, 65, 76] : List Int), κ 5 .u8 f a.length e a])) (fun _ _ w hs => SAT.chdPush o l k j rfl (tells_row _ _ _ _ _ _) (hs.pulls2 [4, 7] ((κ 5 .u8 l j.length k j :: chd .u8 x :: ξ y (q + 1) B (x ++ ([(o, l, k, j)] : List Ch)) :: ξ (ad F) 1 1 ([(o, l, k, j)] : List Ch) :: blk wj 71 [pt d] :: δ d A n c ss Wa m wc ws lf dn [ν .u8 (ad p) ([79, 87, 65, 76] : List Int), κ 5 .u8 f a.length e a])) (by kernel_rfl))) ?_
   refine RunR.sl hU [] 1 7 [0, 3, 6, 36, 37] [(0, pt wj), (3, ς f a.length e), (6, ς y (q + 1) B), (36, ι g), (37, ι i)] 1 ?_
   refine RunR.dn ?_
   refine kblock_n ?_
   refine kseq_n ?_
   refine RunC.region ?_
   refine RunR.sil hU [0] 2 2 [0, 3, 6, 36, 37] [(0, pt wj), (3, ς f a.length e), (6, ς y (q + 1) B), (36, ι g), (37, ι (i + 1))] ((-9223372036854775808 ≤ (i + 1) ∧ (i + 1) < 9223372036854775808) ∧ (True) ∧ True) rfl (by kernel_rfl) ⟨(by omega), trivial, trivial⟩ ?_
   refine RunR.dn ?_
   refine kloop_n _ [0, 3, 6, 36, 37] [1, 0, 6, 6, 2, 2, 2, 2, 1] [(0, pt wj), (3, ς f a.length e), (6, ς y (q + 1) B), (36, ι g), (37, ι (i + 1))] (ξ y (q + 1) B (x ++ ([(o, l, k, j)] : List Ch)) :: chd .u8 (x ++ ([(o, l, k, j)] : List Ch)) :: ν .u8 (ad p) ([79, 87, 65, 76] : List Int) :: κ 5 .u8 f a.length e a :: δ d A n c ss Wa m wc ws lf dn [blk wj 71 [pt d]]) (by kernel_rfl) (by kernel_rfl) ?_ ⟨(i + 1), (x ++ ([(o, l, k, j)] : List Ch)), y, (q + 1), B, (by omega), ‹_›, (by exact logged_step ‹_› R ‹_› ‹_› ‹_› (by omega) hi), (by rw [List.length_append, N]; rfl), (by omega), (by exact Q.append (ChOK.one (by refine ⟨?_, ?_⟩ <;> omega) ‹_› ‹_› (by omega))), (by exact J.app (by omega) (by omega) (by omega)), ‹_›, rfl, (by rfl), (by rfl)⟩
   show ((g - (i + 1)).toNat : Nat) < ((g - i).toNat : Nat)
   omega
  refine RunC.exit ?_
  refine kseq_e ?_
  refine kloop_e ?_
  refine kblock_e ?_
  refine kseq_n ?_
  refine RunC.sr ?_
  refine RunR.sl hU [] 2 2 [2] [(2, ς u q v)] 2 ?_
  refine RunR.nn ?_
  refine RunC.ret ?_
  refine kret_r [ς u q v] [0, 0, 6, 2, 2, 2, 2] (ξ u q v x :: chd .u8 x :: blk wj 71 [pt d] :: δ d A n c ss Wa m wc ws lf dn []) ⟨rfl, trivial⟩ (by kernel_rfl) rfl ⟨u, q, v, x, rfl, rfl, (by exact logged_good ‹_› ‹_› ‹_› ‹_› R J (by omega) ‹_› ‹_› (by omega)), ‹_›, (by omega), ‹_›, ‹_›, ‹_›⟩
 refine RunR.enveq [(0, pt wj), (2, ς0), (3, ς f a.length e), (5, ι g), (28, η true)] (by rw [decide_eq_false h22]; try rfl) ?_
 refine RunR.sl hU [] 7 13 [0, 2, 3, 5, 35] [(0, pt wj), (2, ς0), (3, ς f a.length e), (5, ι g), (35, η true)] 3 ?_
 refine RunR.nn ?_
 refine RunC.cond (b := true) (by kernel_rfl) (fun _ => ?_) (fun h => by cases h)
 refine RunC.sr ?_
 refine RunR.sl hU [] 1 1 [0, 2, 3, 5] [(0, pt wj), (2, ς0), (3, ς f a.length e), (5, ι g)] 1 ?_
 refine RunR.nn ?_
 refine RunC.ret ?_
 refine kseq_r ?_
 refine kret_rt ((chd .u8 ([] : List Ch) :: ξ none 0 0 ([] : List Ch) :: ν .u8 (ad p) ([79, 87, 65, 76] : List Int) :: κ 5 .u8 f a.length e a :: δ d A n c ss Wa m wc ws lf dn [blk wj 71 [pt d]])) (fun X W w hs => ((hs).nil_row 97 2).chd0 .u8) [ς0] [1, 0, 6, 2, 2, 2, 2] (ξ none 0 0 ([] : List Ch) :: chd .u8 ([] : List Ch) :: blk wj 71 [pt d] :: δ d A n c ss Wa m wc ws lf dn []) ⟨rfl, trivial⟩ (by kernel_rfl) rfl ⟨none, 0, 0, ([] : List Ch), rfl, rfl, (by exact logged_nomark ‹_› ‹_›), (by rfl), (by omega), (by exact ChOK.nil _), (by exact BOK.nil _), (by intro h; omega)⟩
theorem wl_lay_spec (t : Nat) (d : Nat) (A : Option Addr) (n : Nat) (c : Nat) (ss : List Int) (Wa : Option Addr) (m : Nat) (wc : Nat) (ws : List Ch) (lf : Int) (dn : Bool) (La : Option Addr) (lm : Nat) (lc : Nat) (ls : List Ch) (hss : In .u8 ss) (hnl : ss.length = n) (hnc : n ≤ c) (hAs : 0 < n → Option.isSome A = true) (Z : n % 256 = 0) (hnb : n ≤ 557056) (hml : ws.length = m) (hmb : m ≤ 900000) (hok : ChOK .u8 ws) (hwk : WOK n ws) (hWs : 0 < m → Option.isSome Wa = true) (hlf : 0 ≤ lf ∧ lf < 9223372036854775808) (hll : ls.length = lm) (Y : lm ≤ 40) (hlok : ChOK .u8 ls) (hbk : BOK n ls) (V : 256 * 43 ≤ n) :
 CallsS Try.prog 28 [pt t] (blk t 75 [pt d, ς La lm lc] :: δ d A n c ss Wa m wc ws lf dn [vw La (chV ls), vws (chL ls)]) (fun r D => ∃ (e : Int) (Wb : Option Addr) (G : Nat) (L : Nat) (x : List Ch) (y : Int) (C : Bool), r = ι e ∧ D = (blk t 75 [pt d, ς La lm lc] :: δ d A n c ss Wb G L x y C []) ∧ ((e, dat x, y, C) = wrs n (dat ws) lf dn (layL (dat ls))) ∧ (x.length = G) ∧ (G ≤ m + 40) ∧ (ChOK .u8 x) ∧ (WOK n x) ∧ (0 < G → Option.isSome Wb = true) ∧ (0 ≤ y ∧ y < 9223372036854775808)) := by
 refine CallsS.enter hU Try.f28 _ [.tmp 2] 29 Try.func28 rfl (by decide) rfl rfl (by kernel_rfl) fun w0 W => ?_
 refine RunC.know (p := 0 < ls.length * 2 → Option.isSome La = true) (fun _ _ w hs => vw_some hs 5 rfl (by exact chV_len _)) (fun I => ?_)
 refine RunC.sr ?_
 refine RunR.sl hU [] 1 1 [0, 2] [(0, pt t), (2, ι 0)] 1 ?_
 refine RunR.nn ?_
 refine RunC.seq ?_
 refine RunC.sr ?_
 refine RunR.sl hU [] 3 3 [0, 2, 8] [(0, pt t), (2, ι 0), (8, .pointer (some ⟨t, 1, none⟩))] 3 ?_
 refine RunR.st (some 9) (.load 45 (.tmp 8)) (Step.load_blk hU 0 t (1) 75 [pt d, ς La lm lc] (ς La lm lc) (by kernel_rfl) (by kernel_rfl) (by kernel_rfl) (by kernel_rfl) ?_)
 refine RunR.sl hU [] 2 6 [0, 2, 9, 10, 11] [(0, pt t), (2, ι 0), (9, ς La lm lc), (10, ι (lm : Int)), (11, ι 0)] 2 ?_
 refine RunR.nn ?_
 refine RunC.block ?_
 refine RunC.env [0, 9, 10, 11] [(0, pt t), (9, ς La lm lc), (10, ι (lm : Int)), (11, ι 0)] (by kernel_rfl) ?_
 refine RunC.only [1, 2, 2, 0, 0, 0, 0] [blk d 47 [ς A n c, ς Wa m wc, ι lf, η dn], ξ Wa m wc ws, chd .u8 ws, blk t 75 [pt d, ς La lm lc], κ 5 .u8 A n c ss, vw La (chV ls), vws (chL ls)] (by kernel_rfl) ?_
 refine RunC.loop (σ := Nat) (fun n_ t_ D_ => ∃ (i : Int) (Wl : Option Addr) (ml : Nat) (wl : Nat) (wsl : List Ch) (ll : Int) (dl : Bool), (0 ≤ i) ∧ (i ≤ (lm : Int)) ∧ ((0, dat wsl, ll, dl) = wrs n (dat ws) lf dn ((layL (dat ls)).take i.toNat)) ∧ (wsl.length = ml) ∧ ((ml : Int) ≤ m + i) ∧ (ChOK .u8 wsl) ∧ (WOK n wsl) ∧ (0 < ml → Option.isSome Wl = true) ∧ (0 ≤ ll ∧ ll < 9223372036854775808) ∧ n_ = ((lm - i).toNat : Nat) ∧ t_ = [(0, pt t), (9, ς La lm lc), (10, ι (lm : Int)), (11, ι i)] ∧ D_ = [blk d 47 [ς A n c, ς Wl ml wl, ι ll, η dl], ξ Wl ml wl wsl, chd .u8 wsl, blk t 75 [pt d, ς La lm lc], κ 5 .u8 A n c ss, vw La (chV ls), vws (chL ls)]) id _ ⟨0, Wa, m, wc, ws, lf, dn, (by omega), (by omega), (by rfl), ‹_›, (by omega), ‹_›, ‹_›, ‹_›, ‹_›, rfl, rfl, rfl⟩ ?_
 rintro n_ _ _ ⟨i, Wl, ml, wl, wsl, ll, dl, hi, him, hwr, hmll, hmbl, hokl, hwkl, hWl, hlfl, rfl, rfl, rfl⟩
 refine RunC.sr ?_
 refine RunR.sl hU [] 1 1 [0, 9, 10, 11, 12] [(0, pt t), (9, ς La lm lc), (10, ι (lm : Int)), (11, ι i), (12, η (decide (i < (lm : Int))))] 1 ?_
 refine RunR.nn ?_
 refine RunC.seq ?_
 refine RunC.condp (i < (lm : Int)) (by kernel_rfl) (fun X => ?_) (fun X => ?_)
 ·refine RunC.ks ?_
  refine RunC.seq ?_
  refine RunC.block ?_
  refine RunC.sr ?_
  refine RunR.sil hU [] 1 1 [0, 9, 10, 11, 13] [(0, pt t), (9, ς La lm lc), (10, ι (lm : Int)), (11, ι i), (13, .pointer (elemAt La i 2))] (((0 ≤ i ∧ i < (lm : Int)) ∧ Option.isSome La = true) ∧ True) rfl (by kernel_rfl) ⟨⟨by omega, I (by omega)⟩, trivial⟩ ?_
  obtain ⟨v, b, f, a, B, H, K, M, P⟩ := ch_at (by assumption : ChOK .u8 ls) (i := (i).toNat) (by omega)
  have E := H; simp only [fits] at E
  have S := bok_at hbk B
  refine RunR.st (some 14) (.load 97 (.tmp 13)) (Step.load_of hU 5 (vw La (chV ls)) La i 2 (chV ls) (.agg #[ι v, ς b a.length f]) (by kernel_rfl) (by kernel_rfl) (tells_vw _ _) (loadv_ch (by kernel_rfl) (by kernel_rfl) B) (by kernel_rfl) (by rw [chV_len]; omega) ?_)
  refine RunR.st (some 4) (.alloc 97) (Step.al hU 2 32 (.agg #[ι 0, ς0]) (fun s => ?_))
  refine RunR.st none (.store 97 (.tmp 4) (.tmp 14)) (Step.store_blk hU 0 s 0 97 [ι 0, ς0] (.agg #[ι v, ς b a.length f]) (by kernel_rfl) (by kernel_rfl) (by kernel_rfl) 2 rfl [ι v, ς b a.length f] (by kernel_rfl) rfl (by kernel_rfl) (by decide) ?_)
  refine RunR.nn ?_
  refine RunC.seq ?_
  refine RunC.regionU hU 11 [blk t 75 [pt d, ς La lm lc], blk s 97 [ι v, ς b a.length f]] [4, 0] [9, 10] (bm 11 0) (by kernel_rfl) (by kernel_rfl) (by kernel_rfl) ?_
  refine RunU.sl hU 0 (bm 11 1) 15 (pt t) ?_
  refine RunU.sl hU 1 (bm 11 3) 16 (pt t) ?_
  refine RunU.sl hU 2 (bm 11 7) 17 (pt t) ?_
  refine RunU.rd 3 (bm 11 15) 18 (.load 26 (.tmp 17)) (pt d) [4, 0] (Reads.load_blk hU 0 t (0) 75 [pt d, ς La lm lc] (pt d) (by kernel_rfl) (by kernel_rfl) (by kernel_rfl)) ?_
  refine RunU.sl hU 4 (bm 11 31) 19 (pt s) ?_
  refine RunU.rd 5 (bm 11 63) 20 (.load 3 (.tmp 19)) (ι v) [4, 0] (Reads.load_blk hU 1 s (0) 97 [ι v, ς b a.length f] (ι v) (by kernel_rfl) (by kernel_rfl) (by kernel_rfl)) ?_
  refine RunU.sl hU 7 (bm 11 191) 22 (.pointer (some ⟨s, 1, none⟩)) ?_
  refine RunU.rd 8 (bm 11 447) 23 (.load 22 (.tmp 22)) (ς b a.length f) [4, 0] (Reads.load_blk hU 1 s (1) 97 [ι v, ς b a.length f] (ς b a.length f) (by kernel_rfl) (by kernel_rfl) (by kernel_rfl)) ?_
  refine RunU.on (some 21) (.call { callee := .value (.func 46), args := #[.tmp 20], argTypes := #[3] }) 6 (bm 11 511) [4, 0] (Step.cn 46 [ι v] [] [blk s 97 [ι v, ς b a.length f], blk d 47 [ς A n c, ς Wl ml wl, ι ll, η dl], ξ Wl ml wl wsl, chd .u8 wsl, blk t 75 [pt d, ς La lm lc], κ 5 .u8 A n c ss, vw La (chV ls), vws (chL ls)] (wl_place_spec v (by omega)) [] ?_)
  rintro _ _ ⟨rfl, rfl⟩
  refine orL ?_
  refine RunU.on (some 24) (.call { callee := .value (.func 52), args := #[.tmp 18, .tmp 21, .tmp 23], argTypes := #[26, 3, 22] }) 9 (bm 11 1023) [] (Step.cl 52 [pt d, ι (42 + v), ς b a.length f] (δ d A n c ss Wl ml wl wsl ll dl []) [ν .u8 b a] [blk s 97 [ι v, ς b a.length f], blk t 75 [pt d, ς La lm lc], vw La (chV ls), vws (chL ls)] (d_Write_spec d A n c ss Wl ml wl wsl ll dl (42 + v) b f a a.length hss ‹_› ‹_› (fun h => hAs (by exact h)) ‹_› ‹_› ‹_› (by omega) ‹_› ‹_› (fun h => hWl (by exact h)) ‹_› (by (refine ⟨?_, ?_⟩ <;> omega)) K ‹_› ‹_› (by rfl)) [1, 4, 1, 1] ((Lend.nil _).tells 3 (vws (chL ls)) b (nums .u8 a) (by kernel_rfl) (tells_chL B)) ?_)
  rintro _ _ ⟨u, q, o, j, g, l, k, rfl, rfl, z, O, R, N, Q, F, T⟩
  refine orR ?_
  refine RunU.sl hU 10 (bm 11 2047) 5 (ι u) ?_
  refine RunU.ev [0, 5, 9, 10, 11] [(0, pt t), (5, ι u), (9, ς La lm lc), (10, ι (lm : Int)), (11, ι i)] ?_
  refine RunU.dn ?_
  refine kseq_n ?_
  refine RunC.sr ?_
  refine RunR.sl hU [] 2 2 [0, 5, 9, 10, 11, 26] [(0, pt t), (5, ι u), (9, ς La lm lc), (10, ι (lm : Int)), (11, ι i), (26, η (!decide (u = 0)))] 2 ?_
  refine RunR.nn ?_
  refine RunC.condn (u = 0) (by kernel_rfl) (fun J => ?_) (fun J => ?_)
  ·refine RunC.sr ?_
   refine RunR.sl hU [] 2 2 [0, 2, 9, 10, 11] [(0, pt t), (2, ι u), (9, ς La lm lc), (10, ι (lm : Int)), (11, ι i)] 2 ?_
   refine RunR.nn ?_
   refine RunC.ret ?_
   refine kblock_r ?_
   refine kseq_r ?_
   refine kloop_r ?_
   refine kblock_r ?_
   refine kseq_r ?_
   refine kret_r [ι u] [5, 0, 0, 0, 0] (blk t 75 [pt d, ς La lm lc] :: δ d A n c ss q o j g l k []) ⟨rfl, trivial⟩ (by kernel_rfl) rfl ⟨u, q, o, j, g, l, k, rfl, rfl, (by exact wrs_stop hwr (lay_get (dat_get ‹_›)) z ‹_›), ‹_›, (by omega), ‹_›, ‹_›, ‹_›, ‹_›⟩
  refine RunC.skip ?_
  refine kblock_n ?_
  refine kseq_n ?_
  refine RunC.region ?_
  refine RunR.sil hU [0] 2 2 [0, 9, 10, 11] [(0, pt t), (9, ς La lm lc), (10, ι (lm : Int)), (11, ι (i + 1))] ((-9223372036854775808 ≤ (i + 1) ∧ (i + 1) < 9223372036854775808) ∧ (True) ∧ True) rfl (by kernel_rfl) ⟨(by omega), trivial, trivial⟩ ?_
  refine RunR.dn ?_
  refine kloop_n _ [0, 9, 10, 11] [0, 1, 1, 2, 0, 1, 1] [(0, pt t), (9, ς La lm lc), (10, ι (lm : Int)), (11, ι (i + 1))] [blk d 47 [ς A n c, ς q o j, ι l, η k], ξ q o j g, chd .u8 g, blk t 75 [pt d, ς La lm lc], κ 5 .u8 A n c ss, vw La (chV ls), vws (chL ls)] (by kernel_rfl) (by kernel_rfl) ?_ ⟨(i + 1), q, o, j, g, l, k, (by omega), ‹_›, (by rw [show (i + 1).toNat = i.toNat + 1 by omega]; exact wrs_step hwr (lay_get (dat_get ‹_›)) z ‹_›), ‹_›, (by omega), ‹_›, ‹_›, (fun h => F (by exact h)), ‹_›, rfl, (by rfl), (by rfl)⟩
  show ((lm - (i + 1)).toNat : Nat) < ((lm - i).toNat : Nat)
  omega
 refine RunC.exit ?_
 refine kseq_e ?_
 refine kloop_e ?_
 refine kblock_e ?_
 refine kseq_n ?_
 refine RunC.sr ?_
 refine RunR.sl hU [] 1 1 [2] [(2, ι 0)] 1 ?_
 refine RunR.nn ?_
 refine RunC.ret ?_
 refine kret_r [ι 0] [3, 0, 2, 0, 0] (blk t 75 [pt d, ς La lm lc] :: δ d A n c ss Wl ml wl wsl ll dl []) ⟨rfl, trivial⟩ (by kernel_rfl) rfl ⟨0, Wl, ml, wl, wsl, ll, dl, rfl, rfl, (by exact wrs_end hwr (by rw [layL_len, dat_len]; omega)), ‹_›, (by omega), ‹_›, ‹_›, ‹_›, ‹_›⟩
theorem wl_log_spec (t : Nat) (d : Nat) (A : Option Addr) (n : Nat) (c : Nat) (ss : List Int) (Wa : Option Addr) (m : Nat) (wc : Nat) (ws : List Ch) (lf : Int) (dn : Bool) (La : Option Addr) (lm : Nat) (lc : Nat) (ls : List Ch) (hss : In .u8 ss) (hnl : ss.length = n) (hnc : n ≤ c) (hAs : 0 < n → Option.isSome A = true) (Z : n % 256 = 0) (hnb : n ≤ 557056) (hml : ws.length = m) (hmb : m ≤ 900000) (hok : ChOK .u8 ws) (hwk : WOK n ws) (hWs : 0 < m → Option.isSome Wa = true) (hlf : 0 ≤ lf ∧ lf < 9223372036854775808) (hll : ls.length = lm) (Y : lm ≤ 40) (hlok : ChOK .u8 ls) (hbk : BOK n ls) (V : 256 * 43 ≤ n) :
 CallsS Try.prog 58 [pt t] (blk t 75 [pt d, ς La lm lc] :: δ d A n c ss Wa m wc ws lf dn [vw La (chV ls), vws (chL ls)]) (fun r D => ∃ (e : Int) (Wb : Option Addr) (G : Nat) (L : Nat) (v : List Ch) (x : Int) (C : Bool), r = ι e ∧ D = (blk t 75 [pt d, ς La lm lc] :: δ d A n c ss Wb G L v x C []) ∧ ((e, dat v, x, C) = wrs n (dat ws) lf dn (logL 1 (dat ls))) ∧ (v.length = G) ∧ (G ≤ m + 40) ∧ (ChOK .u8 v) ∧ (WOK n v) ∧ (0 < G → Option.isSome Wb = true) ∧ (0 ≤ x ∧ x < 9223372036854775808)) := by
 refine CallsS.enter hU Try.f58 _ [.tmp 2] 29 Try.func58 rfl (by decide) rfl rfl (by kernel_rfl) fun w0 W => ?_
 refine RunC.know (p := 0 < ls.length * 2 → Option.isSome La = true) (fun _ _ w hs => vw_some hs 5 rfl (by exact chV_len _)) (fun I => ?_)
 refine RunC.sr ?_
 refine RunR.sl hU [] 1 1 [0, 2] [(0, pt t), (2, ι 0)] 1 ?_
 refine RunR.nn ?_
 refine RunC.seq ?_
 refine RunC.sr ?_
 refine RunR.sl hU [] 3 3 [0, 2, 8] [(0, pt t), (2, ι 0), (8, .pointer (some ⟨t, 1, none⟩))] 3 ?_
 refine RunR.st (some 9) (.load 45 (.tmp 8)) (Step.load_blk hU 0 t (1) 75 [pt d, ς La lm lc] (ς La lm lc) (by kernel_rfl) (by kernel_rfl) (by kernel_rfl) (by kernel_rfl) ?_)
 refine RunR.sl hU [] 2 6 [0, 2, 9, 10, 11] [(0, pt t), (2, ι 0), (9, ς La lm lc), (10, ι (lm : Int)), (11, ι 0)] 2 ?_
 refine RunR.nn ?_
 refine RunC.block ?_
 refine RunC.env [0, 9, 10, 11] [(0, pt t), (9, ς La lm lc), (10, ι (lm : Int)), (11, ι 0)] (by kernel_rfl) ?_
 refine RunC.only [1, 2, 2, 0, 0, 0, 0] [blk d 47 [ς A n c, ς Wa m wc, ι lf, η dn], ξ Wa m wc ws, chd .u8 ws, blk t 75 [pt d, ς La lm lc], κ 5 .u8 A n c ss, vw La (chV ls), vws (chL ls)] (by kernel_rfl) ?_
 refine RunC.loop (σ := Nat) (fun n_ t_ D_ => ∃ (i : Int) (Wl : Option Addr) (ml : Nat) (wl : Nat) (wsl : List Ch) (ll : Int) (dl : Bool), (0 ≤ i) ∧ (i ≤ (lm : Int)) ∧ ((0, dat wsl, ll, dl) = wrs n (dat ws) lf dn ((logL 1 (dat ls)).take i.toNat)) ∧ (wsl.length = ml) ∧ ((ml : Int) ≤ m + i) ∧ (ChOK .u8 wsl) ∧ (WOK n wsl) ∧ (0 < ml → Option.isSome Wl = true) ∧ (0 ≤ ll ∧ ll < 9223372036854775808) ∧ n_ = ((lm - i).toNat : Nat) ∧ t_ = [(0, pt t), (9, ς La lm lc), (10, ι (lm : Int)), (11, ι i)] ∧ D_ = [blk d 47 [ς A n c, ς Wl ml wl, ι ll, η dl], ξ Wl ml wl wsl, chd .u8 wsl, blk t 75 [pt d, ς La lm lc], κ 5 .u8 A n c ss, vw La (chV ls), vws (chL ls)]) id _ ⟨0, Wa, m, wc, ws, lf, dn, (by omega), (by omega), (by rfl), ‹_›, (by omega), ‹_›, ‹_›, ‹_›, ‹_›, rfl, rfl, rfl⟩ ?_
 rintro n_ _ _ ⟨i, Wl, ml, wl, wsl, ll, dl, hi, him, hwr, hmll, hmbl, hokl, hwkl, hWl, hlfl, rfl, rfl, rfl⟩
 refine RunC.sr ?_
 refine RunR.sl hU [] 1 1 [0, 9, 10, 11, 12] [(0, pt t), (9, ς La lm lc), (10, ι (lm : Int)), (11, ι i), (12, η (decide (i < (lm : Int))))] 1 ?_
 refine RunR.nn ?_
 refine RunC.seq ?_
 refine RunC.condp (i < (lm : Int)) (by kernel_rfl) (fun X => ?_) (fun X => ?_)
 ·refine RunC.ks ?_
  refine RunC.seq ?_
  refine RunC.block ?_
  refine RunC.sr ?_
  refine RunR.sil hU [] 2 2 [0, 9, 10, 11, 13, 14] [(0, pt t), (9, ς La lm lc), (10, ι (lm : Int)), (11, ι i), (13, ι i), (14, .pointer (elemAt La i 2))] ((True) ∧ ((0 ≤ i ∧ i < (lm : Int)) ∧ Option.isSome La = true) ∧ True) rfl (by kernel_rfl) ⟨trivial, ⟨by omega, I (by omega)⟩, trivial⟩ ?_
  obtain ⟨B, b, g, a, z, H, K, M, P⟩ := ch_at (by assumption : ChOK .u8 ls) (i := (i).toNat) (by omega)
  have E := H; simp only [fits] at E
  have S := bok_at hbk z
  refine RunR.st (some 15) (.load 97 (.tmp 14)) (Step.load_of hU 5 (vw La (chV ls)) La i 2 (chV ls) (.agg #[ι B, ς b a.length g]) (by kernel_rfl) (by kernel_rfl) (tells_vw _ _) (loadv_ch (by kernel_rfl) (by kernel_rfl) z) (by kernel_rfl) (by rw [chV_len]; omega) ?_)
  refine RunR.st (some 4) (.alloc 97) (Step.al hU 2 32 (.agg #[ι 0, ς0]) (fun u => ?_))
  refine RunR.sl hU [] 1 5 [0, 3, 4, 9, 10, 11, 15] [(0, pt t), (3, ι i), (4, pt u), (9, ς La lm lc), (10, ι (lm : Int)), (11, ι i), (15, .agg #[ι B, ς b a.length g])] 1 ?_
  refine RunR.st none (.store 97 (.tmp 4) (.tmp 15)) (Step.store_blk hU 0 u 0 97 [ι 0, ς0] (.agg #[ι B, ς b a.length g]) (by kernel_rfl) (by kernel_rfl) (by kernel_rfl) 2 rfl [ι B, ς b a.length g] (by kernel_rfl) rfl (by kernel_rfl) (by decide) ?_)
  refine RunR.nn ?_
  refine RunC.seq ?_
  refine RunC.regionU hU 10 [blk t 75 [pt d, ς La lm lc], blk u 97 [ι B, ς b a.length g]] [4, 0] [8, 9] (bm 10 0) (by kernel_rfl) (by kernel_rfl) (by kernel_rfl) ?_
  refine RunU.sl hU 0 (bm 10 1) 16 (pt t) ?_
  refine RunU.sl hU 1 (bm 10 3) 17 (pt t) ?_
  refine RunU.sl hU 2 (bm 10 7) 18 (pt t) ?_
  refine RunU.rd 3 (bm 10 15) 19 (.load 26 (.tmp 18)) (pt d) [4, 0] (Reads.load_blk hU 0 t (0) 75 [pt d, ς La lm lc] (pt d) (by kernel_rfl) (by kernel_rfl) (by kernel_rfl)) ?_
  refine RunU.sl hU 4 (bm 10 31) 20 (ι i) ?_
  refine RunU.sil hU true 5 (bm 10 63) 21 (ι (1 + i)) (-9223372036854775808 ≤ (1 + i) ∧ (1 + i) < 9223372036854775808) (by kernel_rfl) (by omega) (by kernel_rfl) (by kernel_rfl) (fun _ _ _ h => h) ?_
  refine RunU.sl hU 6 (bm 10 127) 22 (.pointer (some ⟨u, 1, none⟩)) ?_
  refine RunU.rd 7 (bm 10 255) 23 (.load 22 (.tmp 22)) (ς b a.length g) [4, 0] (Reads.load_blk hU 1 u (1) 97 [ι B, ς b a.length g] (ς b a.length g) (by kernel_rfl) (by kernel_rfl) (by kernel_rfl)) ?_
  refine RunU.on (some 24) (.call { callee := .value (.func 52), args := #[.tmp 19, .tmp 21, .tmp 23], argTypes := #[26, 3, 22] }) 8 (bm 10 511) [] (Step.cl 52 [pt d, ι (1 + i), ς b a.length g] (δ d A n c ss Wl ml wl wsl ll dl []) [ν .u8 b a] [blk u 97 [ι B, ς b a.length g], blk t 75 [pt d, ς La lm lc], vw La (chV ls), vws (chL ls)] (d_Write_spec d A n c ss Wl ml wl wsl ll dl (1 + i) b g a a.length hss ‹_› ‹_› (fun h => hAs (by exact h)) ‹_› ‹_› ‹_› (by omega) ‹_› ‹_› (fun h => hWl (by exact h)) ‹_› (by (refine ⟨?_, ?_⟩ <;> omega)) K ‹_› ‹_› (by rfl)) [1, 4, 1, 1] ((Lend.nil _).tells 3 (vws (chL ls)) b (nums .u8 a) (by kernel_rfl) (tells_chL z)) ?_)
  rintro _ _ ⟨s, q, o, j, f, l, k, rfl, rfl, y, O, R, N, Q, F, T⟩
  refine orR ?_
  refine RunU.sl hU 9 (bm 10 1023) 5 (ι s) ?_
  refine RunU.ev [0, 5, 9, 10, 11] [(0, pt t), (5, ι s), (9, ς La lm lc), (10, ι (lm : Int)), (11, ι i)] ?_
  refine RunU.dn ?_
  refine kseq_n ?_
  refine RunC.sr ?_
  refine RunR.sl hU [] 2 2 [0, 5, 9, 10, 11, 26] [(0, pt t), (5, ι s), (9, ς La lm lc), (10, ι (lm : Int)), (11, ι i), (26, η (!decide (s = 0)))] 2 ?_
  refine RunR.nn ?_
  refine RunC.condn (s = 0) (by kernel_rfl) (fun J => ?_) (fun J => ?_)
  ·refine RunC.sr ?_
   refine RunR.sl hU [] 2 2 [0, 2, 9, 10, 11] [(0, pt t), (2, ι s), (9, ς La lm lc), (10, ι (lm : Int)), (11, ι i)] 2 ?_
   refine RunR.nn ?_
   refine RunC.ret ?_
   refine kblock_r ?_
   refine kseq_r ?_
   refine kloop_r ?_
   refine kblock_r ?_
   refine kseq_r ?_
   refine kret_r [ι s] [5, 0, 0, 0, 0] (blk t 75 [pt d, ς La lm lc] :: δ d A n c ss q o j f l k []) ⟨rfl, trivial⟩ (by kernel_rfl) rfl ⟨s, q, o, j, f, l, k, rfl, rfl, (by exact wrs_stop hwr ((log_get (dat_get ‹_›)).trans (by congr 2; omega)) y ‹_›), ‹_›, (by omega), ‹_›, ‹_›, ‹_›, ‹_›⟩
  refine RunC.skip ?_
  refine kblock_n ?_
  refine kseq_n ?_
  refine RunC.region ?_
  refine RunR.sil hU [0] 2 2 [0, 9, 10, 11] [(0, pt t), (9, ς La lm lc), (10, ι (lm : Int)), (11, ι (i + 1))] ((-9223372036854775808 ≤ (i + 1) ∧ (i + 1) < 9223372036854775808) ∧ (True) ∧ True) rfl (by kernel_rfl) ⟨(by omega), trivial, trivial⟩ ?_
  refine RunR.dn ?_
  refine kloop_n _ [0, 9, 10, 11] [0, 1, 1, 2, 0, 1, 1] [(0, pt t), (9, ς La lm lc), (10, ι (lm : Int)), (11, ι (i + 1))] [blk d 47 [ς A n c, ς q o j, ι l, η k], ξ q o j f, chd .u8 f, blk t 75 [pt d, ς La lm lc], κ 5 .u8 A n c ss, vw La (chV ls), vws (chL ls)] (by kernel_rfl) (by kernel_rfl) ?_ ⟨(i + 1), q, o, j, f, l, k, (by omega), ‹_›, (by rw [show (i + 1).toNat = i.toNat + 1 by omega]; exact wrs_step hwr ((log_get (dat_get ‹_›)).trans (by congr 2; omega)) y ‹_›), ‹_›, (by omega), ‹_›, ‹_›, (fun h => F (by exact h)), ‹_›, rfl, (by rfl), (by rfl)⟩
  show ((lm - (i + 1)).toNat : Nat) < ((lm - i).toNat : Nat)
  omega
 refine RunC.exit ?_
 refine kseq_e ?_
 refine kloop_e ?_
 refine kblock_e ?_
 refine kseq_n ?_
 refine RunC.sr ?_
 refine RunR.sl hU [] 1 1 [2] [(2, ι 0)] 1 ?_
 refine RunR.nn ?_
 refine RunC.ret ?_
 refine kret_r [ι 0] [3, 0, 2, 0, 0] (blk t 75 [pt d, ς La lm lc] :: δ d A n c ss Wl ml wl wsl ll dl []) ⟨rfl, trivial⟩ (by kernel_rfl) rfl ⟨0, Wl, ml, wl, wsl, ll, dl, rfl, rfl, (by exact wrs_end hwr (by rw [logL_len, dat_len]; omega)), ‹_›, (by omega), ‹_›, ‹_›, ‹_›, ‹_›⟩
theorem wl_mark_spec (t : Nat) (d : Nat) (A : Option Addr) (n : Nat) (c : Nat) (ss : List Int) (Wa : Option Addr) (m : Nat) (wc : Nat) (ws : List Ch) (lf : Int) (dn : Bool) (La : Option Addr) (lm : Nat) (lc : Nat) (ls : List Ch) (hss : In .u8 ss) (hnl : ss.length = n) (hnc : n ≤ c) (hAs : 0 < n → Option.isSome A = true) (O : n % 256 = 0) (hnb : n ≤ 557056) (hml : ws.length = m) (hmb : m ≤ 900000) (hok : ChOK .u8 ws) (hwk : WOK n ws) (hWs : 0 < m → Option.isSome Wa = true) (hlf : 0 ≤ lf ∧ lf < 9223372036854775808) (hll : ls.length = lm) (M : lm ≤ 40) (hlok : ChOK .u8 ls) (hbk : BOK n ls) (J : 256 * 43 ≤ n) :
 CallsS Try.prog 59 [pt t] (blk t 75 [pt d, ς La lm lc] :: δ d A n c ss Wa m wc ws lf dn [vw La (chV ls), vws (chL ls)]) (fun r D => ∃ (e : Int) (Wb : Option Addr) (x : Nat) (B : Nat) (f : List Ch) (o : Int) (v : Bool), r = ι e ∧ D = (blk t 75 [pt d, ς La lm lc] :: δ d A n c ss Wb x B f o v []) ∧ ((e, dat f, o, v) = wrs n (dat ws) lf dn [(0, headL (dat ls))]) ∧ (f.length = x) ∧ (x ≤ m + 1) ∧ (ChOK .u8 f) ∧ (WOK n f) ∧ (0 < x → Option.isSome Wb = true) ∧ (0 ≤ o ∧ o < 9223372036854775808)) := by
 refine CallsS.enter hU Try.f59 _ [.tmp 2] 13 Try.func59 rfl (by decide) rfl rfl (by kernel_rfl) fun R W => ?_
 refine RunC.know (p := 0 < ls.length * 2 → Option.isSome La = true) (fun _ _ w hs => vw_some hs 5 rfl (by exact chV_len _)) (fun N => ?_)
 refine RunC.sr ?_
 refine RunR.sl hU [] 1 1 [0, 2] [(0, pt t), (2, ι 0)] 1 ?_
 refine RunR.nn ?_
 refine RunC.seq ?_
 refine RunC.regionU hU 11 [blk t 75 [pt d, ς La lm lc]] [0] [9, 10] (bm 11 0) (by kernel_rfl) (by kernel_rfl) (by kernel_rfl) ?_
 refine RunU.sl hU 0 (bm 11 1) 3 (pt t) ?_
 refine RunU.sl hU 1 (bm 11 3) 4 (pt t) ?_
 refine RunU.sl hU 2 (bm 11 7) 5 (pt t) ?_
 refine RunU.rd 3 (bm 11 15) 6 (.load 26 (.tmp 5)) (pt d) [0] (Reads.load_blk hU 0 t (0) 75 [pt d, ς La lm lc] (pt d) (by kernel_rfl) (by kernel_rfl) (by kernel_rfl)) ?_
 refine RunU.sl hU 4 (bm 11 31) 7 (pt t) ?_
 refine RunU.sl hU 5 (bm 11 63) 8 (pt t) ?_
 refine RunU.sl hU 6 (bm 11 127) 9 (.pointer (some ⟨t, 1, none⟩)) ?_
 refine RunU.rd 7 (bm 11 255) 10 (.load 45 (.tmp 9)) (ς La lm lc) [0] (Reads.load_blk hU 0 t (1) 75 [pt d, ς La lm lc] (ς La lm lc) (by kernel_rfl) (by kernel_rfl) (by kernel_rfl)) ?_
 refine RunU.on (some 11) (.call { callee := .value (.func 74), args := #[.tmp 10], argTypes := #[45] }) 8 (bm 11 511) [1] (Step.cl 74 [ς La lm lc] [] [vw La (chV ls), vws (chL ls)] (blk t 75 [pt d, ς La lm lc] :: δ d A n c ss Wa m wc ws lf dn [vw La (chV ls), vws (chL ls)]) (wl_head_spec n La lm lc ls ‹_› ‹_› ‹_› ‹_› ‹_›) [] (((Lend.nil _).same 6 (vws (chL ls)) (by kernel_rfl) rfl).tells 5 (vw La (chV ls)) La (chV ls) (by kernel_rfl) (tells_vw _ _)) ?_)
 rintro _ _ ⟨b, q, a, rfl, rfl, y, Q, z, L, P⟩
 refine orL ?_
 refine RunU.on (some 12) (.call { callee := .value (.func 52), args := #[.tmp 6, .const (ι 0), .tmp 11], argTypes := #[26, 3, 22] }) 9 (bm 11 1023) [] (Step.cl 52 [pt d, ι 0, ς b a.length q] (δ d A n c ss Wa m wc ws lf dn []) [ν .u8 b a] [κ 5 .u8 b a.length q a, blk t 75 [pt d, ς La lm lc], vw La (chV ls), vws (chL ls)] (d_Write_spec d A n c ss Wa m wc ws lf dn 0 b q a a.length hss ‹_› ‹_› (fun h => hAs (by exact h)) ‹_› ‹_› ‹_› (by omega) ‹_› ‹_› (fun h => hWs (by exact h)) ‹_› (by (refine ⟨?_, ?_⟩ <;> omega)) z ‹_› (by omega) (by rfl)) [2, 2, 2, 2] ((Lend.nil _).tells 0 (κ 5 .u8 b a.length q a) b (nums .u8 a) (by kernel_rfl) (tells_row _ _ _ _ _ _)) ?_)
 rintro _ _ ⟨l, u, s, i, k, g, j, rfl, rfl, H, G, F, I, K, C, E⟩
 refine orR ?_
 refine RunU.sl hU 10 (bm 11 2047) 2 (ι l) ?_
 refine RunU.ev [2] [(2, ι l)] ?_
 refine RunU.dn ?_
 refine kseq_n ?_
 refine RunC.ret ?_
 refine kret_r [ι l] [5, 0, 0, 0, 0] (blk t 75 [pt d, ς La lm lc] :: δ d A n c ss u s i k g j []) ⟨rfl, trivial⟩ (by kernel_rfl) rfl ⟨l, u, s, i, k, g, j, rfl, rfl, (by rw [← y]; exact wrs_one ‹_›), ‹_›, (by omega), ‹_›, ‹_›, ‹_›, ‹_›⟩
theorem wl_forget_spec (t : Nat) (d : Nat) (A : Option Addr) (n : Nat) (c : Nat) (ss : List Int) (Wa : Option Addr) (m : Nat) (wc : Nat) (ws : List Ch) (lf : Int) (dn : Bool) (La : Option Addr) (lm : Nat) (lc : Nat) (hss : In .u8 ss) (hnl : ss.length = n) (hnc : n ≤ c) (hAs : 0 < n → Option.isSome A = true) (G : n % 256 = 0) (hnb : n ≤ 557056) (hml : ws.length = m) (hmb : m ≤ 900000) (hok : ChOK .u8 ws) (hwk : WOK n ws) (hWs : 0 < m → Option.isSome Wa = true) (hlf : 0 ≤ lf ∧ lf < 9223372036854775808) (E : 256 * 43 ≤ n) :
 CallsS Try.prog 29 [pt t] (blk t 75 [pt d, ς La lm lc] :: δ d A n c ss Wa m wc ws lf dn []) (fun r D => ∃ (e : Int) (Wb : Option Addr) (q : Nat) (u : Nat) (a : List Ch) (b : Int) (o : Bool), r = ι e ∧ D = (blk t 75 [pt d, ς La lm lc] :: δ d A n c ss Wb q u a b o []) ∧ ((e, dat a, b, o) = wrs n (dat ws) lf dn [(0, List.replicate 256 0)]) ∧ (a.length = q) ∧ (q ≤ m + 1) ∧ (ChOK .u8 a) ∧ (WOK n a) ∧ (0 < q → Option.isSome Wb = true) ∧ (0 ≤ b ∧ b < 9223372036854775808)) := by
 refine CallsS.enter hU Try.f29 _ [.tmp 2] 9 Try.func29 rfl (by decide) rfl rfl (by kernel_rfl) fun H W => ?_
 refine RunC.sr ?_
 refine RunR.sl hU [] 1 1 [0, 2] [(0, pt t), (2, ι 0)] 1 ?_
 refine RunR.nn ?_
 refine RunC.seq ?_
 refine RunC.regionU hU 7 [blk t 75 [pt d, ς La lm lc]] [0] [5, 6] (bm 7 0) (by kernel_rfl) (by kernel_rfl) (by kernel_rfl) ?_
 refine RunU.sl hU 0 (bm 7 1) 3 (pt t) ?_
 refine RunU.sl hU 1 (bm 7 3) 4 (pt t) ?_
 refine RunU.sl hU 2 (bm 7 7) 5 (pt t) ?_
 refine RunU.rd 3 (bm 7 15) 6 (.load 26 (.tmp 5)) (pt d) [0] (Reads.load_blk hU 0 t (0) 75 [pt d, ς La lm lc] (pt d) (by kernel_rfl) (by kernel_rfl) (by kernel_rfl)) ?_
 refine RunU.on (some 7) (.makeSlice 22 (.const (ι 256)) (.const (ι 256))) 4 (bm 7 31) [1] (Step.make_nums hU 5 1 .u8 .i64 .i64 (256) rfl rfl (by kernel_rfl) (by kernel_rfl) (by omega) (by omega) (by kernel_rfl) (fun k => ?_))
 have F : (List.replicate 256 (0 : Int)).length = 256 := List.length_replicate
 refine orL ?_
 refine RunU.on (some 8) (.call { callee := .value (.func 52), args := #[.tmp 6, .const (ι 0), .tmp 7], argTypes := #[26, 3, 22] }) 5 (bm 7 63) [] (Step.cl 52 [pt d, ι 0, ς (ad k) 256 256] (δ d A n c ss Wa m wc ws lf dn []) [ν .u8 (ad k) (List.replicate 256 (0 : Int))] [κ 5 .u8 (ad k) 256 256 (List.replicate 256 (0 : Int)), blk t 75 [pt d, ς La lm lc]] (d_Write_spec d A n c ss Wa m wc ws lf dn 0 (ad k) 256 (List.replicate 256 (0 : Int)) 256 hss ‹_› ‹_› (fun h => hAs (by exact h)) ‹_› ‹_› ‹_› (by omega) ‹_› ‹_› (fun h => hWs (by exact h)) ‹_› (by (refine ⟨?_, ?_⟩ <;> omega)) (by (repeat with_reducible exact In.replicate _ _)) (by omega) (by omega) (by rfl)) [2, 2, 2, 2] ((Lend.nil _).tells 0 (κ 5 .u8 (ad k) 256 256 (List.replicate 256 (0 : Int))) (ad k) (nums .u8 (List.replicate 256 (0 : Int))) (by kernel_rfl) (tells_row _ _ _ _ _ _)) ?_)
 rintro _ _ ⟨s, p, l, i, j, g, f, rfl, rfl, z, w, v, x, C, B, y⟩
 refine orR ?_
 refine RunU.sl hU 6 (bm 7 127) 2 (ι s) ?_
 refine RunU.ev [2] [(2, ι s)] ?_
 refine RunU.dn ?_
 refine kseq_n ?_
 refine RunC.ret ?_
 refine kret_r [ι s] [5, 0, 0, 0, 0] (blk t 75 [pt d, ς La lm lc] :: δ d A n c ss p l i j g f []) ⟨rfl, trivial⟩ (by kernel_rfl) rfl ⟨s, p, l, i, j, g, f, rfl, rfl, (by exact wrs_one ‹_›), ‹_›, (by omega), ‹_›, ‹_›, ‹_›, ‹_›⟩
end Go.Proofs.Ytlibhidhfbecbaa.LFileOne
