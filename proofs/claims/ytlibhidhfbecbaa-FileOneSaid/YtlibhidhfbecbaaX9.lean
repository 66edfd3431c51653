import Derived.Test.YtlibhidhfbecbaaOnePure
import Derived.Test.YtlibhidhfbecbaaProg
import Derived.Test.YtlibhidhfbecbaaX8
namespace Go.Proofs.Ytlibhidhfbecbaa.LFileOne
open Go Go.Proofs.Ytlibhidhfbecbaa.SL Go.Proofs.Ytlibhidhfbecbaa.SL.W Go.Proofs.Ytlibhidhfbecbaa.SL.D Go.Proofs.Ytlibhidhfbecbaa.SL.I Go.Proofs.Ytlibhidhfbecbaa.XT
set_option linter.unusedVariables false
set_option linter.unusedSimpArgs false
set_option maxRecDepth 100000
set_option maxHeartbeats 40000000
theorem wl_Commit__spec (bx : Nat) (wj : Nat) (d : Nat) (A : Option Addr) (n : Nat) (c : Nat) (Wa : Option Addr) (m : Nat) (wc : Nat) (lf : Int) (dn : Bool) (b : Int) (e : Option Addr) (bn : Nat) (f : Nat) (g : n % 256 = 0) (hnb : n ≤ 557056) :
 CallsS Try.prog 57 [.agg #[ι b, ς e bn f], pt bx] [blk bx 40 [pt wj], blk wj 71 [pt d], blk d 47 [ς A n c, ς Wa m wc, ι lf, η dn]] (fun r D => r = η (decide (¬ (0 ≤ b ∧ 256 * (42 + b) + 256 ≤ (n : Int)) ∨ ¬ (bn : Int) = 256)) ∧ D = [blk bx 40 [pt wj], blk wj 71 [pt d], blk d 47 [ς A n c, ς Wa m wc, ι lf, η dn]]) := by
 refine CallsS.enter hU Try.f57 _ [.tmp 3] 15 Try.func57 rfl (by decide) rfl rfl (by kernel_rfl) fun h W => ?_
 refine RunC.sr ?_
 refine RunR.st (some 2) (.box 97 (.tmp 0)) (Step.box (.agg #[ι b, ς e bn f]) (by kernel_rfl) (by kernel_rfl) (fun a => ?_))
 refine RunR.sl hU [] 1 2 [1, 2, 3] [(1, pt bx), (2, pt a), (3, η false)] 1 ?_
 refine RunR.nx ?_
 refine RunR.st (some 4) (.load 40 (.tmp 1)) (Step.load_blk hU 1 bx (0) 40 [pt wj] (pt wj) (by kernel_rfl) (by kernel_rfl) (by kernel_rfl) (by kernel_rfl) ?_)
 refine RunR.sl hU [] 1 2 [2, 3, 4, 5] [(2, pt a), (3, η false), (4, pt wj), (5, pt a)] 1 ?_
 refine RunR.st (some 6) (.load 3 (.tmp 5)) (Step.load_blk hU 0 a (0) 97 [ι b, ς e bn f] (ι b) (by kernel_rfl) (by kernel_rfl) (by kernel_rfl) (by kernel_rfl) ?_)
 refine RunR.st (some 7) (.call { callee := .value (.func 44), args := #[.tmp 4, .tmp 6], argTypes := #[40, 3] }) (Step.cn 44 [pt wj, ι b] [blk wj 71 [pt d], blk d 47 [ς A n c, ς Wa m wc, ι lf, η dn]] [blk a 97 [ι b, ς e bn f], blk bx 40 [pt wj]] (wl_there_spec wj d A n c Wa m wc lf dn b ‹_› ‹_›) [2, 2] ?_)
 rintro _ _ ⟨rfl, rfl⟩
 refine RunR.sl hU [] 2 6 [2, 3, 9] [(2, pt a), (3, η false), (9, η (!decide (0 ≤ b ∧ 256 * (42 + b) + 256 ≤ (n : Int))))] 2 ?_
 refine RunR.ev [2, 3, 9] [(2, pt a), (3, η false), (9, η (!decide (0 ≤ b ∧ 256 * (42 + b) + 256 ≤ (n : Int))))] ?_
 by_cases h2 : 0 ≤ b ∧ 256 * (42 + b) + 256 ≤ (n : Int)
 ·refine RunR.enveq [(2, pt a), (3, η false), (9, η false)] (by rw [decide_eq_true h2]; try rfl) ?_
  refine RunR.sl hU [] 1 7 [3, 9, 10] [(3, η false), (9, η false), (10, .pointer (some ⟨a, 1, none⟩))] 1 ?_
  refine RunR.st (some 11) (.load 22 (.tmp 10)) (Step.load_blk hU 2 a (1) 97 [ι b, ς e bn f] (ς e bn f) (by kernel_rfl) (by kernel_rfl) (by kernel_rfl) (by kernel_rfl) ?_)
  refine RunR.sl hU [] 4 12 [3] [(3, η (!decide ((bn : Int) = 256)))] 4 ?_
  refine RunR.nn ?_
  refine RunC.ret ?_
  refine kret_r [η (!decide ((bn : Int) = 256))] [3, 0, 0] [blk bx 40 [pt wj], blk wj 71 [pt d], blk d 47 [ς A n c, ς Wa m wc, ι lf, η dn]] ⟨rfl, trivial⟩ (by kernel_rfl) rfl ⟨(by (exact congrArg Value.bool (by rw [← decide_not]; exact decide_eq_decide.2 (by omega)))), (by rfl)⟩
 refine RunR.enveq [(2, pt a), (3, η false), (9, η true)] (by rw [decide_eq_false h2]; try rfl) ?_
 refine RunR.sl hU [] 6 12 [3] [(3, η true)] 2 ?_
 refine RunR.nn ?_
 refine RunC.ret ?_
 refine kret_r [η true] [3, 0, 0] [blk bx 40 [pt wj], blk wj 71 [pt d], blk d 47 [ς A n c, ς Wa m wc, ι lf, η dn]] ⟨rfl, trivial⟩ (by kernel_rfl) rfl ⟨(by (exact congrArg Value.bool (decide_eq_true (by omega)).symm)), (by rfl)⟩
theorem wl_IndexFunc_spec (bx : Nat) (wj : Nat) (d : Nat) (A : Option Addr) (n : Nat) (c : Nat) (Wa : Option Addr) (m : Nat) (wc : Nat) (lf : Int) (dn : Bool) (La : Option Addr) (lm : Nat) (lc : Nat) (ls : List Ch) (u : n % 256 = 0) (hnb : n ≤ 557056) (hll : ls.length = lm) (hlb : lm ≤ 1000000) (hlok : ChOK .u8 ls) :
 CallsS Try.prog 73 [ς La lm lc, .func (.func 57) #[] #[pt bx]] [blk bx 40 [pt wj], blk wj 71 [pt d], blk d 47 [ς A n c, ς Wa m wc, ι lf, η dn], vw La (chV ls)] (fun r D => ∃ (ix : Int), r = ι ix ∧ D = [blk bx 40 [pt wj], blk wj 71 [pt d], blk d 47 [ς A n c, ς Wa m wc, ι lf, η dn]] ∧ (0 ≤ ix ↔ ¬ BOK n ls)) := by
 refine CallsS.enter hU Try.f73 _ [.tmp 4] 19 Try.func73 rfl (by decide) rfl rfl (by kernel_rfl) fun x W => ?_
 refine RunC.know (p := 0 < ls.length * 2 → Option.isSome La = true) (fun _ _ w hs => vw_some hs 3 rfl (by exact chV_len _)) (fun j => ?_)
 refine RunC.sr ?_
 refine RunR.sl hU [] 1 1 [0, 1, 4] [(0, ς La lm lc), (1, .func (.func 57) #[] #[pt bx]), (4, ι 0)] 1 ?_
 refine RunR.nn ?_
 refine RunC.seq ?_
 refine RunC.sr ?_
 refine RunR.sl hU [] 3 3 [0, 1, 4, 7, 8] [(0, ς La lm lc), (1, .func (.func 57) #[] #[pt bx]), (4, ι 0), (7, ι (lm : Int)), (8, ι 0)] 3 ?_
 refine RunR.nn ?_
 refine RunC.block ?_
 refine RunC.env [0, 1, 7, 8] [(0, ς La lm lc), (1, .func (.func 57) #[] #[pt bx]), (7, ι (lm : Int)), (8, ι 0)] (by kernel_rfl) ?_
 refine RunC.only [0, 0, 0, 0] [blk bx 40 [pt wj], blk wj 71 [pt d], blk d 47 [ς A n c, ς Wa m wc, ι lf, η dn], vw La (chV ls)] (by kernel_rfl) ?_
 refine RunC.loop (σ := Nat) (fun n_ t_ D_ => ∃ (i : Int), (0 ≤ i) ∧ (i ≤ (lm : Int)) ∧ (BOK n (ls.take i.toNat)) ∧ n_ = ((lm - i).toNat : Nat) ∧ t_ = [(0, ς La lm lc), (1, .func (.func 57) #[] #[pt bx]), (7, ι (lm : Int)), (8, ι i)] ∧ D_ = [blk bx 40 [pt wj], blk wj 71 [pt d], blk d 47 [ς A n c, ς Wa m wc, ι lf, η dn], vw La (chV ls)]) id _ ⟨0, (by omega), (by omega), (by exact BOK.nil _), rfl, rfl, rfl⟩ ?_
 rintro n_ _ _ ⟨i, hi, him, hbk, rfl, rfl, rfl⟩
 refine RunC.sr ?_
 refine RunR.sl hU [] 1 1 [0, 1, 7, 8, 9] [(0, ς La lm lc), (1, .func (.func 57) #[] #[pt bx]), (7, ι (lm : Int)), (8, ι i), (9, η (decide (i < (lm : Int))))] 1 ?_
 refine RunR.nn ?_
 refine RunC.seq ?_
 refine RunC.condp (i < (lm : Int)) (by kernel_rfl) (fun t => ?_) (fun t => ?_)
 ·refine RunC.ks ?_
  refine RunC.seq ?_
  refine RunC.block ?_
  refine RunC.sr ?_
  refine RunR.sl hU [] 2 2 [0, 1, 5, 7, 8] [(0, ς La lm lc), (1, .func (.func 57) #[] #[pt bx]), (5, ι i), (7, ι (lm : Int)), (8, ι i)] 2 ?_
  refine RunR.nx ?_
  refine RunR.sil hU [] 4 4 [0, 1, 5, 7, 8, 11, 14] [(0, ς La lm lc), (1, .func (.func 57) #[] #[pt bx]), (5, ι i), (7, ι (lm : Int)), (8, ι i), (11, .func (.func 57) #[] #[pt bx]), (14, .pointer (elemAt La i 2))] ((True) ∧ (True) ∧ (True) ∧ ((0 ≤ i ∧ i < (lm : Int)) ∧ Option.isSome La = true) ∧ True) rfl (by kernel_rfl) ⟨trivial, trivial, trivial, ⟨by omega, j (by omega)⟩, trivial⟩ ?_
  obtain ⟨f, b, e, a, k, l, v, q, s⟩ := ch_at (by assumption : ChOK .u8 ls) (i := (i).toNat) (by omega)
  have g := l; simp only [fits] at g
  refine RunR.st (some 15) (.load 97 (.tmp 14)) (Step.load_of hU 3 (vw La (chV ls)) La i 2 (chV ls) (.agg #[ι f, ς b a.length e]) (by kernel_rfl) (by kernel_rfl) (tells_vw _ _) (loadv_ch (by kernel_rfl) (by kernel_rfl) k) (by kernel_rfl) (by rw [chV_len]; omega) ?_)
  refine RunR.st (some 16) (.call { callee := .value (.tmp 11), args := #[.tmp 15], argTypes := #[97] }) (Step.cn 57 [.agg #[ι f, ς b a.length e], pt bx] [blk bx 40 [pt wj], blk wj 71 [pt d], blk d 47 [ς A n c, ς Wa m wc, ι lf, η dn]] [vw La (chV ls)] (wl_Commit__spec bx wj d A n c Wa m wc lf dn f b a.length e ‹_› ‹_›) [0, 0, 0] ?_)
  rintro _ _ ⟨rfl, rfl⟩
  refine RunR.nn ?_
  refine RunC.condp (¬ (0 ≤ f ∧ 256 * (42 + f) + 256 ≤ (n : Int)) ∨ ¬ (a.length : Int) = 256) (by kernel_rfl) (fun o => ?_) (fun o => ?_)
  ·refine RunC.sr ?_
   refine RunR.sl hU [] 2 2 [0, 1, 4, 7, 8] [(0, ς La lm lc), (1, .func (.func 57) #[] #[pt bx]), (4, ι i), (7, ι (lm : Int)), (8, ι i)] 2 ?_
   refine RunR.nn ?_
   refine RunC.ret ?_
   refine kblock_r ?_
   refine kseq_r ?_
   refine kloop_r ?_
   refine kblock_r ?_
   refine kseq_r ?_
   refine kret_r [ι i] [0, 0, 0] [blk bx 40 [pt wj], blk wj 71 [pt d], blk d 47 [ς A n c, ς Wa m wc, ι lf, η dn]] ⟨rfl, trivial⟩ (by kernel_rfl) rfl ⟨i, rfl, rfl, (by exact ⟨fun _ => bok_not ‹_› ‹_›, fun _ => by omega⟩)⟩
  refine RunC.skip ?_
  refine kblock_n ?_
  refine kseq_n ?_
  refine RunC.region ?_
  refine RunR.sil hU [0] 2 2 [0, 1, 7, 8] [(0, ς La lm lc), (1, .func (.func 57) #[] #[pt bx]), (7, ι (lm : Int)), (8, ι (i + 1))] ((-9223372036854775808 ≤ (i + 1) ∧ (i + 1) < 9223372036854775808) ∧ (True) ∧ True) rfl (by kernel_rfl) ⟨(by omega), trivial, trivial⟩ ?_
  refine RunR.dn ?_
  refine kloop_n _ [0, 1, 7, 8] [0, 0, 0, 0] [(0, ς La lm lc), (1, .func (.func 57) #[] #[pt bx]), (7, ι (lm : Int)), (8, ι (i + 1))] [blk bx 40 [pt wj], blk wj 71 [pt d], blk d 47 [ς A n c, ς Wa m wc, ι lf, η dn], vw La (chV ls)] (by kernel_rfl) (by kernel_rfl) ?_ ⟨(i + 1), (by omega), ‹_›, (by rw [show (i + 1).toNat = i.toNat + 1 by omega]; exact bok_succ hbk ‹_› ‹_›), rfl, (by rfl), (by rfl)⟩
  show ((lm - (i + 1)).toNat : Nat) < ((lm - i).toNat : Nat)
  omega
 refine RunC.exit ?_
 refine kseq_e ?_
 refine kloop_e ?_
 refine kblock_e ?_
 refine kseq_n ?_
 refine RunC.sr ?_
 refine RunR.sl hU [] 1 1 [4] [(4, ι (-1))] 1 ?_
 refine RunR.nn ?_
 refine RunC.ret ?_
 refine kret_r [ι (-1)] [0, 0, 0] [blk bx 40 [pt wj], blk wj 71 [pt d], blk d 47 [ς A n c, ς Wa m wc, ι lf, η dn]] ⟨rfl, trivial⟩ (by kernel_rfl) rfl ⟨(-1), rfl, rfl, (by exact ⟨fun h => by omega, fun h => absurd (bok_all hbk (by omega)) h⟩)⟩
theorem wl_Contains_spec (bx : Nat) (wj : Nat) (d : Nat) (A : Option Addr) (n : Nat) (c : Nat) (Wa : Option Addr) (m : Nat) (wc : Nat) (lf : Int) (dn : Bool) (La : Option Addr) (lm : Nat) (lc : Nat) (ls : List Ch) (f : n % 256 = 0) (hnb : n ≤ 557056) (hll : ls.length = lm) (hlb : lm ≤ 1000000) (hlok : ChOK .u8 ls) :
 CallsS Try.prog 56 [ς La lm lc, .func (.func 57) #[] #[pt bx]] [blk bx 40 [pt wj], blk wj 71 [pt d], blk d 47 [ς A n c, ς Wa m wc, ι lf, η dn], vw La (chV ls)] (fun r D => r = η (decide (¬ BOK n ls)) ∧ D = [blk bx 40 [pt wj], blk wj 71 [pt d], blk d 47 [ς A n c, ς Wa m wc, ι lf, η dn]]) := by
 refine CallsS.enter hU Try.f56 _ [.tmp 4] 9 Try.func56 rfl (by decide) rfl rfl (by kernel_rfl) fun g W => ?_
 refine RunC.know (p := 0 < ls.length * 2 → Option.isSome La = true) (fun _ _ w hs => vw_some hs 3 rfl (by exact chV_len _)) (fun e => ?_)
 refine RunC.sr ?_
 refine RunR.sl hU [] 1 1 [0, 1, 4] [(0, ς La lm lc), (1, .func (.func 57) #[] #[pt bx]), (4, η false)] 1 ?_
 refine RunR.nx ?_
 refine RunR.sl hU [] 2 2 [4, 5, 6] [(4, η false), (5, ς La lm lc), (6, .func (.func 57) #[] #[pt bx])] 2 ?_
 refine RunR.st (some 7) (.call { callee := .value (.func 73), args := #[.tmp 5, .tmp 6], argTypes := #[45, 105] }) (Step.cl 73 [ς La lm lc, .func (.func 57) #[] #[pt bx]] [blk bx 40 [pt wj], blk wj 71 [pt d], blk d 47 [ς A n c, ς Wa m wc, ι lf, η dn]] [vw La (chV ls)] [vw La (chV ls)] (wl_IndexFunc_spec bx wj d A n c Wa m wc lf dn La lm lc ls ‹_› ‹_› ‹_› ‹_› ‹_›) [0, 0, 0] ((Lend.nil _).tells 0 (vw La (chV ls)) La (chV ls) (by kernel_rfl) (tells_vw _ _)) ?_)
 rintro _ _ ⟨a, rfl, rfl, b⟩
 refine RunR.sl hU [] 2 5 [4] [(4, η (decide (a ≥ 0)))] 2 ?_
 refine RunR.nn ?_
 refine RunC.ret ?_
 refine kret_r [η (decide (a ≥ 0))] [0, 0, 0] [blk bx 40 [pt wj], blk wj 71 [pt d], blk d 47 [ς A n c, ς Wa m wc, ι lf, η dn]] ⟨rfl, trivial⟩ (by kernel_rfl) rfl ⟨(by (exact congrArg Value.bool (decide_eq_decide.2 b))), (by rfl)⟩
theorem wl_Commit_spec (wj : Nat) (d : Nat) (A : Option Addr) (n : Nat) (c : Nat) (ss : List Int) (Wa : Option Addr) (m : Nat) (wc : Nat) (ws : List Ch) (lf : Int) (dn : Bool) (La : Option Addr) (lm : Nat) (lc : Nat) (ls : List Ch) (hss : In .u8 ss) (hnl : ss.length = n) (hnc : n ≤ c) (hAs : 0 < n → Option.isSome A = true) (h0 : n % 256 = 0) (hnb : n ≤ 557056) (hml : ws.length = m) (hmb : m ≤ 800000) (hok : ChOK .u8 ws) (hwk : WOK n ws) (hWs : 0 < m → Option.isSome Wa = true) (hlf : 0 ≤ lf ∧ lf < 9223372036854775808) (hll : ls.length = lm) (hlb : lm ≤ 1000000) (hlok : ChOK .u8 ls) (e0 : 256 * 43 ≤ n) :
 CallsS Try.prog 39 [pt wj, ς La lm lc] (blk wj 71 [pt d] :: δ d A n c ss Wa m wc ws lf dn [vw La (chV ls), vws (chL ls)]) (fun r D => ∃ (e : Int) (y : List Int) (Wb : Option Addr) (I : Nat) (K : Nat) (s : List Ch) (x : Int) (H : Bool), r = ι e ∧ D = (blk wj 71 [pt d] :: δ d A n c y Wb I K s x H []) ∧ ((e, y, dat s, x, H) = commitP n ss (dat ws) lf dn ls) ∧ (In .u8 y) ∧ (y.length = n) ∧ (s.length = I) ∧ (I ≤ m + 82) ∧ (ChOK .u8 s) ∧ (WOK n s) ∧ (0 < I → Option.isSome Wb = true) ∧ (0 ≤ x ∧ x < 9223372036854775808)) := by
 refine CallsS.enter hU Try.f39 _ [.tmp 4] 40 Try.func39 rfl (by decide) rfl rfl (by kernel_rfl) fun w0 W => ?_
 refine RunC.know (p := 0 < ls.length * 2 → Option.isSome La = true) (fun _ _ w hs => vw_some hs 5 rfl (by exact chV_len _)) (fun g0 => ?_)
 refine RunC.sr ?_
 refine RunR.st (some 2) (.box 40 (.tmp 0)) (Step.box (pt wj) (by kernel_rfl) (by kernel_rfl) (fun f => ?_))
 refine RunR.sl hU [] 1 2 [1, 2, 4] [(1, ς La lm lc), (2, pt f), (4, ι 0)] 1 ?_
 refine RunR.nn ?_
 refine RunC.seq ?_
 refine RunC.sr ?_
 refine RunR.sl hU [] 4 4 [1, 2, 4, 9] [(1, ς La lm lc), (2, pt f), (4, ι 0), (9, η (decide ((lm : Int) > 40)))] 4 ?_
 refine RunR.ev [1, 2, 4, 9] [(1, ς La lm lc), (2, pt f), (4, ι 0), (9, η (decide ((lm : Int) > 40)))] ?_
 by_cases h3 : (lm : Int) > 40
 ·refine RunR.enveq [(1, ς La lm lc), (2, pt f), (4, ι 0), (9, η true)] (by rw [decide_eq_true h3]; try rfl) ?_
  refine RunR.sl hU [] 4 8 [1, 2, 4, 13] [(1, ς La lm lc), (2, pt f), (4, ι 0), (13, η true)] 1 ?_
  refine RunR.nn ?_
  refine RunC.cond (b := true) (by kernel_rfl) (fun _ => ?_) (fun h => by cases h)
  refine RunC.sr ?_
  refine RunR.sl hU [] 1 1 [1, 2, 4] [(1, ς La lm lc), (2, pt f), (4, ι 1)] 1 ?_
  refine RunR.nn ?_
  refine RunC.ret ?_
  refine kseq_r ?_
  refine kret_r [ι 1] [1, 1, 1, 1, 1] (blk wj 71 [pt d] :: δ d A n c ss Wa m wc ws lf dn []) ⟨rfl, trivial⟩ (by kernel_rfl) rfl ⟨1, ss, Wa, m, wc, ws, lf, dn, rfl, rfl, (by exact commit_bad (fun h => by omega)), ‹_›, ‹_›, ‹_›, (by omega), ‹_›, ‹_›, ‹_›, ‹_›⟩
 refine RunR.enveq [(1, ς La lm lc), (2, pt f), (4, ι 0), (9, η false)] (by rw [decide_eq_false h3]; try rfl) ?_
 refine RunR.sl hU [] 2 6 [1, 2, 4, 9, 10, 11] [(1, ς La lm lc), (2, pt f), (4, ι 0), (9, η false), (10, ς La lm lc), (11, .func (.func 57) #[] #[pt f])] 2 ?_
 refine RunR.st (some 12) (.call { callee := .value (.func 56), args := #[.tmp 10, .tmp 11], argTypes := #[45, 105] }) (Step.cl 56 [ς La lm lc, .func (.func 57) #[] #[pt f]] [blk f 40 [pt wj], blk wj 71 [pt d], blk d 47 [ς A n c, ς Wa m wc, ι lf, η dn]] [vw La (chV ls)] [κ 5 .u8 A n c ss, ξ Wa m wc ws, chd .u8 ws, vw La (chV ls), vws (chL ls)] (wl_Contains_spec f wj d A n c Wa m wc lf dn La lm lc ls ‹_› ‹_› ‹_› ‹_› ‹_›) [0, 0, 0] ((Lend.nil _).tells 3 (vw La (chV ls)) La (chV ls) (by kernel_rfl) (tells_vw _ _)) ?_)
 rintro _ _ ⟨rfl, rfl⟩
 refine RunR.sl hU [] 1 8 [1, 2, 4, 13] [(1, ς La lm lc), (2, pt f), (4, ι 0), (13, η (decide (¬ BOK n ls)))] 1 ?_
 refine RunR.nn ?_
 refine RunC.condp (¬ BOK n ls) (by kernel_rfl) (fun h4 => ?_) (fun h4 => ?_)
 ·refine RunC.sr ?_
  refine RunR.sl hU [] 1 1 [1, 2, 4] [(1, ς La lm lc), (2, pt f), (4, ι 1)] 1 ?_
  refine RunR.nn ?_
  refine RunC.ret ?_
  refine kseq_r ?_
  refine kret_r [ι 1] [1, 1, 1, 1, 1] (blk wj 71 [pt d] :: δ d A n c ss Wa m wc ws lf dn []) ⟨rfl, trivial⟩ (by kernel_rfl) rfl ⟨1, ss, Wa, m, wc, ws, lf, dn, rfl, rfl, (by exact commit_bad (fun h => absurd h.2 ‹_›)), ‹_›, ‹_›, ‹_›, (by omega), ‹_›, ‹_›, ‹_›, ‹_›⟩
 refine RunC.ksr ?_
 refine RunR.st (some 14) (.load 40 (.tmp 2)) (Step.load_blk hU 0 f (0) 40 [pt wj] (pt wj) (by kernel_rfl) (by kernel_rfl) (by kernel_rfl) (by kernel_rfl) ?_)
 refine RunR.sl hU [] 2 3 [1, 2, 4, 16] [(1, ς La lm lc), (2, pt f), (4, ι 0), (16, pt wj)] 2 ?_
 refine RunR.st (some 17) (.load 26 (.tmp 16)) (Step.load_blk hU 1 wj (0) 71 [pt d] (pt d) (by kernel_rfl) (by kernel_rfl) (by kernel_rfl) (by kernel_rfl) ?_)
 refine RunR.sl hU [] 2 6 [1, 2, 4, 19] [(1, ς La lm lc), (2, pt f), (4, ι 0), (19, .agg #[pt d, ς La lm lc])] 2 ?_
 refine RunR.st (some 20) (.box 75 (.tmp 19)) (Step.box (.agg #[pt d, ς La lm lc]) (by kernel_rfl) (by kernel_rfl) (fun a => ?_))
 refine RunR.sl hU [] 1 8 [1, 2, 4, 5] [(1, ς La lm lc), (2, pt f), (4, ι 0), (5, pt a)] 1 ?_
 refine RunR.nn ?_
 refine RunC.seq ?_
 refine RunC.sr ?_
 refine RunR.sl hU [] 3 3 [2, 4, 5, 23] [(2, pt f), (4, ι 0), (5, pt a), (23, η (decide ((lm : Int) = 0)))] 3 ?_
 refine RunR.nn ?_
 refine RunC.condp ((lm : Int) = 0) (by kernel_rfl) (fun h6 => ?_) (fun h6 => ?_)
 ·refine RunC.sr ?_
  refine RunR.st (some 24) (.load 40 (.tmp 2)) (Step.load_blk hU 1 f (0) 40 [pt wj] (pt wj) (by kernel_rfl) (by kernel_rfl) (by kernel_rfl) (by kernel_rfl) ?_)
  refine RunR.sl hU [] 2 3 [4, 5, 26] [(4, ι 0), (5, pt a), (26, pt wj)] 2 ?_
  refine RunR.st (some 27) (.load 26 (.tmp 26)) (Step.load_blk hU 2 wj (0) 71 [pt d] (pt d) (by kernel_rfl) (by kernel_rfl) (by kernel_rfl) (by kernel_rfl) ?_)
  refine RunR.st (some 28) (.call { callee := .value (.func 51), args := #[.tmp 27], argTypes := #[26] }) (Step.cn 51 [pt d] (δ d A n c ss Wa m wc ws lf dn []) [blk a 75 [pt d, ς La lm lc], blk f 40 [pt wj], blk wj 71 [pt d], vw La (chV ls), vws (chL ls)] (d_Sync_spec d A n c ss Wa m wc ws lf dn hss ‹_› ‹_› (fun h => hAs (by exact h)) ‹_› ‹_› ‹_› (by omega) ‹_› ‹_› (fun h => hWs (by exact h)) ‹_›) [3, 3, 3, 3] ?_)
  rintro _ _ ⟨J, z, G, B, t, k, u, i, rfl, rfl, Z, Y, b0, V, O, d0, f0, L, N⟩
  refine RunR.sl hU [] 1 6 [4, 5] [(4, ι J), (5, pt a)] 1 ?_
  refine RunR.nn ?_
  refine RunC.ret ?_
  refine kseq_r ?_
  refine kret_r [ι J] [6, 0, 0, 0, 0] (blk wj 71 [pt d] :: δ d A n c z G B t k u i []) ⟨rfl, trivial⟩ (by kernel_rfl) rfl ⟨J, z, G, B, t, k, u, i, rfl, rfl, (by exact commit_sync (by exact Decidable.not_not.1 ‹_›) (by omega) ‹_›), ‹_›, ‹_›, ‹_›, (by omega), ‹_›, ‹_›, ‹_›, ‹_›⟩
 refine RunC.ksr ?_
 refine RunR.sl hU [] 9 9 [4, 29, 31, 33, 35, 37] [(4, ι 0), (29, pt a), (31, .func (.func 58) #[pt a] #[]), (33, .func (.func 59) #[pt a] #[]), (35, .func (.func 28) #[pt a] #[]), (37, .func (.func 29) #[pt a] #[])] 9 ?_
 refine RunR.st (some 38) (.buildSlice 98 4 #[(0, .tmp 31), (1, .tmp 33), (2, .tmp 35), (3, .tmp 37)]) (Step.lit_vals hU 57 8 (.nilFunc) [.func (.func 58) #[pt a] #[], .func (.func 59) #[pt a] #[], .func (.func 28) #[pt a] #[], .func (.func 29) #[pt a] #[]] (by kernel_rfl) (by kernel_rfl) (by kernel_rfl) (by simp [Value.cells]) rfl rfl (by kernel_rfl) (fun g => ?_))
 refine RunR.st (some 39) (.call { callee := .value (.func 27), args := #[.tmp 29, .tmp 38], argTypes := #[72, 98] }) (Step.cl 27 [pt a, ς (ad g) 4 4] (blk a 75 [pt d, ς La lm lc] :: δ d A n c ss Wa m wc ws lf dn []) [vw (ad g) [.func (.func 58) #[pt a] #[], .func (.func 59) #[pt a] #[], .func (.func 28) #[pt a] #[], .func (.func 29) #[pt a] #[]], vw La (chV ls), vws (chL ls)] [row 57 1 (ς (ad g) 4 4) 4 [.func (.func 58) #[pt a] #[], .func (.func 59) #[pt a] #[], .func (.func 28) #[pt a] #[], .func (.func 29) #[pt a] #[]], blk f 40 [pt wj], blk wj 71 [pt d], vw La (chV ls), vws (chL ls)] (wl_phases4_spec a d A n c ss Wa m wc ws lf dn La lm lc ls (ad g) 4 hss ‹_› ‹_› (fun h => hAs (by exact h)) ‹_› ‹_› ‹_› ‹_› ‹_› ‹_› (fun h => hWs (by exact h)) ‹_› ‹_› (by omega) ‹_› (by exact Decidable.not_not.1 ‹_›) ‹_›) [1, 3, 3, 3, 3] ((((Lend.nil _).same 4 (vws (chL ls)) (by kernel_rfl) rfl).tells 3 (vw La (chV ls)) La (chV ls) (by kernel_rfl) (tells_vw _ _)).tells 0 (row 57 1 (ς (ad g) 4 4) 4 [.func (.func 58) #[pt a] #[], .func (.func 59) #[pt a] #[], .func (.func 28) #[pt a] #[], .func (.func 29) #[pt a] #[]]) (ad g) [.func (.func 58) #[pt a] #[], .func (.func 59) #[pt a] #[], .func (.func 28) #[pt a] #[], .func (.func 29) #[pt a] #[]] (by kernel_rfl) (tells_row _ _ _ _ _ _)) ?_)
 rintro _ _ ⟨F, j, E, C, v, l, q, o, rfl, rfl, c0, S, X, a0, Q, P, R, T, M⟩
 refine RunR.sl hU [] 1 12 [4] [(4, ι F)] 1 ?_
 refine RunR.nn ?_
 refine RunC.ret ?_
 refine kret_r [ι F] [7, 1, 1, 1, 1] (blk wj 71 [pt d] :: δ d A n c j E C v l q o []) ⟨rfl, trivial⟩ (by kernel_rfl) rfl ⟨F, j, E, C, v, l, q, o, rfl, rfl, (by exact commit_go (by exact Decidable.not_not.1 ‹_›) (by omega) (by omega) ‹_›), ‹_›, ‹_›, ‹_›, (by omega), ‹_›, ‹_›, ‹_›, ‹_›⟩
end Go.Proofs.Ytlibhidhfbecbaa.LFileOne
