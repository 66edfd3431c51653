import Derived.Test.YtlibhidhfbecbaaOnePure
import Derived.Test.YtlibhidhfbecbaaProg
import Derived.Test.YtlibhidhfbecbaaX4
namespace Go.Proofs.Ytlibhidhfbecbaa.LFileOne
open Go Go.Proofs.Ytlibhidhfbecbaa.SL Go.Proofs.Ytlibhidhfbecbaa.SL.W Go.Proofs.Ytlibhidhfbecbaa.SL.D Go.Proofs.Ytlibhidhfbecbaa.SL.I Go.Proofs.Ytlibhidhfbecbaa.XT
set_option linter.unusedVariables false
set_option linter.unusedSimpArgs false
set_option maxRecDepth 100000
set_option maxHeartbeats 40000000
theorem d_Sync_spec (d : Nat) (A : Option Addr) (n : Nat) (c : Nat) (ss : List Int) (Wa : Option Addr) (m : Nat) (wc : Nat) (ws : List Ch) (lf : Int) (dn : Bool) (hss : In .u8 ss) (hnl : ss.length = n) (hnc : n ≤ c) (hAs : 0 < n → Option.isSome A = true) (V : n % 256 = 0) (hnb : n ≤ 557056) (hml : ws.length = m) (hmb : m ≤ 1000000) (hok : ChOK .u8 ws) (hwk : WOK n ws) (hWs : 0 < m → Option.isSome Wa = true) (hlf : 0 ≤ lf ∧ lf < 9223372036854775808) :
 CallsS Try.prog 51 [pt d] (δ d A n c ss Wa m wc ws lf dn []) (fun r D => ∃ (e : Int) (u : List Int) (Wb : Option Addr) (K : Nat) (L : Nat) (l : List Ch) (s : Int) (G : Bool), r = ι e ∧ D = (δ d A n c u Wb K L l s G []) ∧ ((e, u, dat l, s, G) = syncR ss (dat ws) lf dn) ∧ (In .u8 u) ∧ (u.length = n) ∧ (l.length = K) ∧ (K ≤ m) ∧ (ChOK .u8 l) ∧ (WOK n l) ∧ (0 < K → Option.isSome Wb = true) ∧ (0 ≤ s ∧ s < 9223372036854775808)) := by
 refine CallsS.enter hU Try.f51 _ [.tmp 2] 29 Try.func51 rfl (by decide) rfl rfl (by kernel_rfl) fun R W => ?_
 refine RunC.sr ?_
 refine RunR.sl hU [] 1 1 [0, 2] [(0, pt d), (2, ι 0)] 1 ?_
 refine RunR.nn ?_
 refine RunC.seq ?_
 refine RunC.sr ?_
 refine RunR.sl hU [] 3 3 [0, 2, 7] [(0, pt d), (2, ι 0), (7, .pointer (some ⟨d, 3, none⟩))] 3 ?_
 refine RunR.st (some 8) (.load 4 (.tmp 7)) (Step.load_blk hU 0 d (3) 47 [ς A n c, ς Wa m wc, ι lf, η dn] (η dn) (by kernel_rfl) (by kernel_rfl) (by kernel_rfl) (by kernel_rfl) ?_)
 refine RunR.sl hU [] 1 5 [0, 2, 9] [(0, pt d), (2, ι 0), (9, η dn)] 1 ?_
 refine RunR.ev [0, 2, 9] [(0, pt d), (2, ι 0), (9, η dn)] ?_
 by_cases J : dn = true
 ·refine RunR.enveq [(0, pt d), (2, ι 0), (9, η true)] (by rw [J]; try rfl) ?_
  refine RunR.sl hU [] 3 8 [0, 2, 12] [(0, pt d), (2, ι 0), (12, η true)] 1 ?_
  refine RunR.nn ?_
  refine RunC.cond (b := true) (by kernel_rfl) (fun _ => ?_) (fun h => by cases h)
  refine RunC.sr ?_
  refine RunR.sl hU [] 1 1 [0, 2] [(0, pt d), (2, ι 11)] 1 ?_
  refine RunR.nn ?_
  refine RunC.ret ?_
  refine kseq_r ?_
  refine kret_r [ι 11] [0, 0, 0, 0] (δ d A n c ss Wa m wc ws lf dn []) ⟨rfl, trivial⟩ (by kernel_rfl) rfl ⟨11, ss, Wa, m, wc, ws, lf, dn, rfl, rfl, (by exact sync_down ‹_›), (by exact hss), (by exact hnl), ‹_›, (by omega), ‹_›, ‹_›, ‹_›, ‹_›⟩
 have J := Bool.eq_false_iff.2 J
 refine RunR.enveq [(0, pt d), (2, ι 0), (9, η false)] (by rw [J]; try rfl) ?_
 refine RunR.sl hU [] 1 6 [0, 2, 9, 10] [(0, pt d), (2, ι 0), (9, η false), (10, pt d)] 1 ?_
 refine RunR.st (some 11) (.call { callee := .value (.func 71), args := #[.tmp 10], argTypes := #[26] }) (Step.cn 71 [pt d] [blk d 47 [ς A n c, ς Wa m wc, ι lf, η dn]] [κ 5 .u8 A n c ss, ξ Wa m wc ws, chd .u8 ws] (d_act_spec d A n c Wa m wc lf dn ‹_›) [0] ?_)
 rintro _ _ ⟨f, a, rfl, rfl, H, S⟩
 refine RunR.sl hU [] 1 8 [0, 2, 12] [(0, pt d), (2, ι 0), (12, η a)] 1 ?_
 refine RunR.nn ?_
 refine RunC.cond (b := a) (by kernel_rfl) (fun X => ?_) (fun X => ?_)
 ·refine RunC.sr ?_
  refine RunR.sl hU [] 1 1 [0, 2] [(0, pt d), (2, ι 11)] 1 ?_
  refine RunR.nn ?_
  refine RunC.ret ?_
  refine kseq_r ?_
  refine kret_r [ι 11] [0, 0, 0, 0] (δ d A n c ss Wa m wc ws f a []) ⟨rfl, trivial⟩ (by kernel_rfl) rfl ⟨11, ss, Wa, m, wc, ws, f, a, rfl, rfl, (by exact sync_go ‹_› H ‹_›), (by exact hss), (by exact hnl), ‹_›, (by omega), ‹_›, ‹_›, ‹_›, ‹_›⟩
 refine RunC.ks ?_
 refine RunC.seq ?_
 refine RunC.sr ?_
 refine RunR.sl hU [] 3 3 [0, 2, 15] [(0, pt d), (2, ι 0), (15, .pointer (some ⟨d, 1, none⟩))] 3 ?_
 refine RunR.st (some 16) (.load 45 (.tmp 15)) (Step.load_blk hU 0 d (1) 47 [ς A n c, ς Wa m wc, ι f, η a] (ς Wa m wc) (by kernel_rfl) (by kernel_rfl) (by kernel_rfl) (by kernel_rfl) ?_)
 refine RunR.sl hU [] 2 6 [0, 2, 16, 17, 18] [(0, pt d), (2, ι 0), (16, ς Wa m wc), (17, ι (m : Int)), (18, ι 0)] 2 ?_
 refine RunR.nn ?_
 refine RunC.block ?_
 refine RunC.env [0, 2, 16, 17, 18] [(0, pt d), (2, ι 0), (16, ς Wa m wc), (17, ι (m : Int)), (18, ι 0)] (by kernel_rfl) ?_
 refine RunC.only [1, 0, 0, 0] [κ 5 .u8 A n c ss, blk d 47 [ς A n c, ς Wa m wc, ι f, η a], ξ Wa m wc ws, chd .u8 ws] (by kernel_rfl) ?_
 refine RunC.loop (σ := Nat) (fun n_ t_ D_ => ∃ (i : Int) (q : List Int), (0 ≤ i) ∧ (i ≤ m) ∧ (q = syncP ss ((dat ws).take i.toNat)) ∧ (q.length = n) ∧ (In .u8 q) ∧ n_ = ((m - i).toNat : Nat) ∧ t_ = [(0, pt d), (2, ι 0), (16, ς Wa m wc), (17, ι (m : Int)), (18, ι i)] ∧ D_ = [κ 5 .u8 A n c q, blk d 47 [ς A n c, ς Wa m wc, ι f, η a], ξ Wa m wc ws, chd .u8 ws]) id _ ⟨0, ss, (by omega), (by omega), (by rfl), ‹_›, hss, rfl, rfl, rfl⟩ ?_
 rintro n_ _ _ ⟨i, q, hi, T, F, E, v, rfl, rfl, rfl⟩
 refine RunC.sr ?_
 refine RunR.sl hU [] 1 1 [0, 2, 16, 17, 18, 19] [(0, pt d), (2, ι 0), (16, ς Wa m wc), (17, ι (m : Int)), (18, ι i), (19, η (decide (i < (m : Int))))] 1 ?_
 refine RunR.nn ?_
 refine RunC.seq ?_
 refine RunC.condp (i < (m : Int)) (by kernel_rfl) (fun Q => ?_) (fun Q => ?_)
 ·refine RunC.ks ?_
  refine RunC.seq ?_
  refine RunC.block ?_
  refine RunC.sr ?_
  refine RunR.sil hU [] 1 1 [0, 2, 16, 17, 18, 20] [(0, pt d), (2, ι 0), (16, ς Wa m wc), (17, ι (m : Int)), (18, ι i), (20, .pointer (elemAt Wa i 2))] (((0 ≤ i ∧ i < (m : Int)) ∧ Option.isSome Wa = true) ∧ True) rfl (by kernel_rfl) ⟨⟨by omega, hWs (by omega)⟩, trivial⟩ ?_
  obtain ⟨x, k, j, g, o, B, C, O, P⟩ := ch_at (by assumption : ChOK .u8 ws) (i := (i).toNat) (by omega)
  have z := B; simp only [fits] at z
  have N := wok_at hwk o
  refine RunR.st (some 21) (.load 97 (.tmp 20)) (Step.load_of hU 2 (ξ Wa m wc ws) Wa i 2 (chV ws) (.agg #[ι x, ς k g.length j]) (by kernel_rfl) (by kernel_rfl) (tells_row _ _ _ _ _ _) (loadv_ch (by kernel_rfl) (by kernel_rfl) o) (by kernel_rfl) (by rw [chV_len]; omega) ?_)
  refine RunR.st (some 4) (.alloc 97) (Step.al hU 2 32 (.agg #[ι 0, ς0]) (fun t => ?_))
  refine RunR.st none (.store 97 (.tmp 4) (.tmp 21)) (Step.store_blk hU 0 t 0 97 [ι 0, ς0] (.agg #[ι x, ς k g.length j]) (by kernel_rfl) (by kernel_rfl) (by kernel_rfl) 2 rfl [ι x, ς k g.length j] (by kernel_rfl) rfl (by kernel_rfl) (by decide) ?_)
  refine RunR.nn ?_
  refine RunC.region ?_
  refine RunR.sl hU [] 1 1 [0, 2, 4, 16, 17, 18, 22] [(0, pt d), (2, ι 0), (4, pt t), (16, ς Wa m wc), (17, ι (m : Int)), (18, ι i), (22, pt d)] 1 ?_
  refine RunR.st (some 23) (.load 97 (.tmp 4)) (Step.load_blk hU 0 t (0) 97 [ι x, ς k g.length j] (.agg #[ι x, ς k g.length j]) (by kernel_rfl) (by kernel_rfl) (by kernel_rfl) (by kernel_rfl) ?_)
  refine RunR.st (some 24) (.call { callee := .value (.func 72), args := #[.tmp 22, .tmp 23], argTypes := #[26, 97] }) (Step.cl 72 [pt d, .agg #[ι x, ς k g.length j]] [blk d 47 [ς A n c, ς Wa m wc, ι f, η a], κ 5 .u8 A n c q] [ν .u8 k g] [blk t 97 [ι x, ς k g.length j], ξ Wa m wc ws, chd .u8 ws] (d_put_spec d A n c q Wa m wc f a x k j g g.length v ‹_› ‹_› (fun h => hAs (by exact h)) ‹_› ‹_› (by omega) (by omega) (by omega) C ‹_› (by rfl)) [2, 1] ((Lend.nil _).tells 2 (chd .u8 ws) k (nums .u8 g) (by kernel_rfl) (tells_chd o)) ?_)
  rintro _ _ ⟨p, rfl, rfl, I, M, y⟩
  refine RunR.dn ?_
  refine kblock_n ?_
  refine kseq_n ?_
  refine RunC.region ?_
  refine RunR.sil hU [0] 2 2 [0, 2, 16, 17, 18] [(0, pt d), (2, ι 0), (16, ς Wa m wc), (17, ι (m : Int)), (18, ι (i + 1))] ((-9223372036854775808 ≤ (i + 1) ∧ (i + 1) < 9223372036854775808) ∧ (True) ∧ True) rfl (by kernel_rfl) ⟨(by omega), trivial, trivial⟩ ?_
  refine RunR.dn ?_
  refine kloop_n _ [0, 2, 16, 17, 18] [1, 0, 1, 1] [(0, pt d), (2, ι 0), (16, ς Wa m wc), (17, ι (m : Int)), (18, ι (i + 1))] [κ 5 .u8 A n c p, blk d 47 [ς A n c, ς Wa m wc, ι f, η a], ξ Wa m wc ws, chd .u8 ws] (by kernel_rfl) (by kernel_rfl) ?_ ⟨(i + 1), p, (by omega), ‹_›, (by rw [I, F, show (i + 1).toNat = i.toNat + 1 by omega]; exact sync_step (dat_get ‹_›)), ‹_›, y, rfl, (by rfl), (by rfl)⟩
  show ((m - (i + 1)).toNat : Nat) < ((m - i).toNat : Nat)
  omega
 refine RunC.exit ?_
 refine kseq_e ?_
 refine kloop_e ?_
 refine kblock_e ?_
 refine kseq_n ?_
 refine RunC.sr ?_
 refine RunR.sl hU [] 3 3 [2, 28] [(2, ι 0), (28, .pointer (some ⟨d, 1, none⟩))] 3 ?_
 refine RunR.st none (.store 45 (.tmp 28) (.const (ς0))) (Step.store_blk hU 1 d 1 47 [ς A n c, ς Wa m wc, ι f, η a] (ς0) (by kernel_rfl) (by kernel_rfl) (by kernel_rfl) 1 rfl [ς0] (by kernel_rfl) rfl (by kernel_rfl) (by simp) ?_)
 refine RunR.nx ?_
 refine RunR.sl hU [] 1 1 [2] [(2, ι 0)] 1 ?_
 refine RunR.nn ?_
 refine RunC.ret ?_
 refine kret_rt ([chd .u8 ([] : List Ch), ξ none 0 0 ([] : List Ch), blk d 47 [ς A n c, ς0, ι f, η a], κ 5 .u8 A n c q, ξ Wa m wc ws, chd .u8 ws]) (fun R W w hs => ((hs).nil_row 97 2).chd0 .u8) [ι 0] [2, 2, 1, 0] (δ d A n c q none 0 0 ([] : List Ch) f a []) ⟨rfl, trivial⟩ (by kernel_rfl) rfl ⟨0, q, none, 0, 0, ([] : List Ch), f, a, rfl, rfl, (by exact sync_end ‹_› H ‹_› (by rw [F, List.take_of_length_le (by rw [dat_len]; omega)])), (by exact v), (by exact E), (by rfl), (by exact Nat.zero_le _), (by exact ChOK.nil _), (by exact WOK.nil _), (by intro h; omega), ‹_›⟩
end Go.Proofs.Ytlibhidhfbecbaa.LFileOne
