import Derived.Test.YtlibhidhfbecbaaOnePure
import Derived.Test.YtlibhidhfbecbaaProg
import Derived.Test.YtlibhidhfbecbaaX3
namespace Go.Proofs.Ytlibhidhfbecbaa.LFileOne
open Go Go.Proofs.Ytlibhidhfbecbaa.SL Go.Proofs.Ytlibhidhfbecbaa.SL.W Go.Proofs.Ytlibhidhfbecbaa.SL.D Go.Proofs.Ytlibhidhfbecbaa.SL.I Go.Proofs.Ytlibhidhfbecbaa.XT
set_option linter.unusedVariables false
set_option linter.unusedSimpArgs false
set_option maxRecDepth 100000
set_option maxHeartbeats 40000000
theorem sl_Backward__it (Wa : Option Addr) (m : Nat) (wc : Nat) (ws : List Ch) (a : Nat) (hml : ws.length = m) (hmb : m ≤ 1000000) (hok : ChOK .u8 ws) (hWs : 0 < m → Option.isSome Wa = true) :
 IterS Try.prog 89 [pt a] (ws.length) (fun i_ => [ι ((ws.length : Int) - 1 - (i_ : Nat)), .agg #[ι ((chR ws i_).1), ς ((chR ws i_).2.1) ((chR ws i_).2.2.2.length) ((chR ws i_).2.2.1)]]) (fun i_ => []) [blk a 45 [ς Wa m wc]] [vw Wa (chV ws)] := by
 intro l B Sx S hB hSx hS hY
 refine CallsS.enter hU Try.f89 _ [] 19 Try.func89 rfl (by decide) rfl rfl (by kernel_rfl) fun u W => ?_
 refine RunC.only [0, 0, 0, 0] [S 0, blk a 45 [ς Wa m wc], B, vw Wa (chV ws)] (by kernel_rfl) ?_
 refine RunC.sr ?_
 refine RunR.st (some 4) (.load 45 (.tmp 1)) (Step.load_blk hU 1 a (0) 45 [ς Wa m wc] (ς Wa m wc) (by kernel_rfl) (by kernel_rfl) (by kernel_rfl) (by kernel_rfl) ?_)
 refine RunR.sil hU [2] 3 4 [0, 1, 3] [(0, .func (.yield l) #[] #[]), (1, pt a), (3, ι ((m : Int) - 1))] ((True) ∧ (-9223372036854775808 ≤ ((m : Int) - 1) ∧ ((m : Int) - 1) < 9223372036854775808) ∧ (True) ∧ True) rfl (by kernel_rfl) ⟨trivial, (by omega), trivial, trivial⟩ ?_
 refine RunR.nn ?_
 refine RunC.block ?_
 refine RunC.env [0, 1, 3] [(0, .func (.yield l) #[] #[]), (1, pt a), (3, ι ((m : Int) - 1))] (by kernel_rfl) ?_
 refine RunC.only [0, 0, 0, 0] [S 0, blk a 45 [ς Wa m wc], B, vw Wa (chV ws)] (by kernel_rfl) ?_
 refine RunC.loop (σ := Nat) (fun n_ t_ D_ => ∃ (i : Int) (q : Nat), (i = (ws.length : Int) - 1 - (q : Nat)) ∧ (q ≤ ws.length) ∧ n_ = ((i + 1).toNat : Nat) ∧ t_ = [(0, .func (.yield l) #[] #[]), (1, pt a), (3, ι i)] ∧ D_ = [S q, blk a 45 [ς Wa m wc], B, vw Wa (chV ws)]) id _ ⟨((m : Int) - 1), 0, (by first | assumption | omega | (simp only [List.length_append, List.length_cons, List.length_nil, List.length_set, List.length_replicate, List.length_take, List.length_drop]; omega) | (simp only [fits] at *; omega) | (simp only [List.length_append, List.length_cons, List.length_nil, List.length_set, List.length_replicate, List.length_take, List.length_drop] at *; omega) | (simp; done) | decide), (by first | assumption | omega | (simp only [List.length_append, List.length_cons, List.length_nil, List.length_set, List.length_replicate, List.length_take, List.length_drop]; omega) | (simp only [fits] at *; omega) | (simp only [List.length_append, List.length_cons, List.length_nil, List.length_set, List.length_replicate, List.length_take, List.length_drop] at *; omega) | (simp; done) | decide), rfl, rfl, rfl⟩ ?_
 rintro n_ _ _ ⟨i, q, hi, hq, rfl, rfl, rfl⟩
 refine RunC.seq ?_
 refine RunC.sr ?_
 refine RunR.sl hU [] 2 2 [0, 1, 3, 8] [(0, .func (.yield l) #[] #[]), (1, pt a), (3, ι i), (8, η (decide (i ≥ 0)))] 2 ?_
 refine RunR.nn ?_
 refine RunC.condp (i ≥ 0) (by kernel_rfl) (fun r => ?_) (fun r => ?_)
 ·refine RunC.ks ?_
  refine RunC.seq ?_
  refine RunC.block ?_
  refine RunC.sr ?_
  refine RunR.sl hU [] 2 2 [0, 1, 3, 11, 12] [(0, .func (.yield l) #[] #[]), (1, pt a), (3, ι i), (11, .func (.yield l) #[] #[]), (12, ι i)] 2 ?_
  refine RunR.st (some 13) (.load 45 (.tmp 1)) (Step.load_blk hU 1 a (0) 45 [ς Wa m wc] (ς Wa m wc) (by kernel_rfl) (by kernel_rfl) (by kernel_rfl) (by kernel_rfl) ?_)
  refine RunR.sil hU [] 2 5 [0, 1, 3, 11, 12, 15] [(0, .func (.yield l) #[] #[]), (1, pt a), (3, ι i), (11, .func (.yield l) #[] #[]), (12, ι i), (15, .pointer (elemAt Wa i 2))] ((True) ∧ ((0 ≤ i ∧ i < (m : Int)) ∧ Option.isSome Wa = true) ∧ True) rfl (by kernel_rfl) ⟨trivial, ⟨by omega, hWs (by omega)⟩, trivial⟩ ?_
  obtain ⟨o, f, j, k, e, n, t, s, p⟩ := ch_at (by assumption : ChOK .u8 ws) (i := (i).toNat) (by omega)
  have g := n; simp only [fits] at g
  refine RunR.st (some 16) (.load 97 (.tmp 15)) (Step.load_of hU 3 (vw Wa (chV ws)) Wa i 2 (chV ws) (.agg #[ι o, ς f k.length j]) (by kernel_rfl) (by kernel_rfl) (tells_vw _ _) (loadv_ch (by kernel_rfl) (by kernel_rfl) e) (by kernel_rfl) (by rw [chV_len]; omega) ?_)
  have e_ := chR_of (q := q) e (by omega)
  refine RunR.ev [0, 1, 3, 11, 12, 15, 16] [(0, .func (.yield l) #[] #[]), (1, pt a), (3, ι i), (11, .func (.yield l) #[] #[]), (12, ι i), (15, .pointer (elemAt Wa i 2)), (16, .agg #[ι o, ς f k.length j])] ?_
  refine RunR.enveq [(0, .func (.yield l) #[] #[]), (1, pt a), (3, ι i), (11, .func (.yield l) #[] #[]), (12, ι ((ws.length : Int) - 1 - (q : Nat))), (15, .pointer (elemAt Wa i 2)), (16, .agg #[ι ((chR ws q).1), ς ((chR ws q).2.1) ((chR ws q).2.2.2.length) ((chR ws q).2.2.1)])] (by simp only [e_]; rw [hi]) ?_
  refine RunR.yield (d := some 17) (c := (.tmp 11)) (os_ := #[.tmp 12, .tmp 16]) (ts := #[3, 97]) l [ι ((ws.length : Int) - 1 - (q : Nat)), .agg #[ι ((chR ws q).1), ς ((chR ws q).2.1) ((chR ws q).2.2.2.length) ((chR ws q).2.2.1)]] (by kernel_rfl) (by kernel_rfl) (by kernel_rfl) (by kernel_rfl) [S q] [B] [blk a 45 [ς Wa m wc], B, vw Wa (chV ws)] (hY q (by omega)) [0] (by kernel_rfl) ((Lend.nil _).same 1 B (by kernel_rfl) hB) ?_
  rintro _ _ (⟨rfl, rfl⟩ | ⟨rfl, rfl⟩)
  ·refine RunR.sl hU [] 1 8 [0, 1, 3, 18] [(0, .func (.yield l) #[] #[]), (1, pt a), (3, ι i), (18, η false)] 1 ?_
   refine RunR.nn ?_
   refine RunC.cond (b := false) (by kernel_rfl) (fun h => by cases h) (fun _ => ?_)
   refine RunC.skip ?_
   refine kblock_n ?_
   refine kseq_n ?_
   refine RunC.region ?_
   refine RunR.sil hU [1] 3 3 [0, 1, 3] [(0, .func (.yield l) #[] #[]), (1, pt a), (3, ι (i - 1))] ((True) ∧ (-9223372036854775808 ≤ (i - 1) ∧ (i - 1) < 9223372036854775808) ∧ (True) ∧ True) rfl (by kernel_rfl) ⟨trivial, (by omega), trivial, trivial⟩ ?_
   refine RunR.dn ?_
   refine kloop_n _ [0, 1, 3] [0, 0, 0, 0] [(0, .func (.yield l) #[] #[]), (1, pt a), (3, ι (i - 1))] [S (q + 1), blk a 45 [ς Wa m wc], B, vw Wa (chV ws)] (by kernel_rfl) (by kernel_rfl) ?_ ⟨(i - 1), (q + 1), (by first | assumption | omega | (simp only [List.length_append, List.length_cons, List.length_nil, List.length_set, List.length_replicate, List.length_take, List.length_drop]; omega) | (simp only [fits] at *; omega) | (simp only [List.length_append, List.length_cons, List.length_nil, List.length_set, List.length_replicate, List.length_take, List.length_drop] at *; omega) | (simp; done) | decide), (by first | assumption | omega | (simp only [List.length_append, List.length_cons, List.length_nil, List.length_set, List.length_replicate, List.length_take, List.length_drop]; omega) | (simp only [fits] at *; omega) | (simp only [List.length_append, List.length_cons, List.length_nil, List.length_set, List.length_replicate, List.length_take, List.length_drop] at *; omega) | (simp; done) | decide), rfl, (by first | rfl | simp only [List.length_set]), (by first | rfl | simp only [List.length_set])⟩
   show (((i - 1) + 1).toNat : Nat) < ((i + 1).toNat : Nat)
   omega
  refine RunR.sl hU [] 1 8 [0, 1, 3, 18] [(0, .func (.yield l) #[] #[]), (1, pt a), (3, ι i), (18, η true)] 1 ?_
  refine RunR.nn ?_
  refine RunC.cond (b := true) (by kernel_rfl) (fun _ => ?_) (fun h => by cases h)
  refine RunC.ret ?_
  refine kblock_r ?_
  refine kseq_r ?_
  refine kloop_r ?_
  refine kblock_r ?_
  refine kret_r [] [0] [Sx] trivial (by kernel_rfl) (by simp [hSx]) (.inr rfl)
 refine RunC.exit ?_
 refine kseq_e ?_
 refine kloop_e ?_
 refine kblock_e ?_
 refine kret_n [] [0] [S q] trivial (by kernel_rfl) (by simp [hS]) (.inl (by rw [show (q : Nat) = ws.length by omega]))
theorem sl_Backward_spec (Wa : Option Addr) (m : Nat) (wc : Nat) :
 CallsS Try.prog 68 [ς Wa m wc] [] (fun r D => ∃ (a : Nat), r = .func (.func 89) #[] #[pt a] ∧ D = [blk a 45 [ς Wa m wc]]) := by
 refine CallsS.enter hU Try.f68 _ [.tmp 2] 4 Try.func68 rfl (by decide) rfl rfl (by kernel_rfl) fun b W => ?_
 refine RunC.sr ?_
 refine RunR.st (some 1) (.box 45 (.tmp 0)) (Step.box (ς Wa m wc) (by kernel_rfl) (by kernel_rfl) (fun a => ?_))
 refine RunR.sl hU [] 1 2 [1, 2] [(1, pt a), (2, .nilFunc)] 1 ?_
 refine RunR.nx ?_
 refine RunR.sl hU [] 2 2 [2] [(2, .func (.func 89) #[] #[pt a])] 2 ?_
 refine RunR.nn ?_
 refine RunC.ret ?_
 refine kret_r [.func (.func 89) #[] #[pt a]] [0] [blk a 45 [ς Wa m wc]] ⟨rfl, trivial⟩ (by kernel_rfl) rfl ⟨a, rfl, rfl⟩
theorem d_Read_spec (d : Nat) (A : Option Addr) (n : Nat) (c : Nat) (ss : List Int) (Wa : Option Addr) (m : Nat) (wc : Nat) (ws : List Ch) (lf : Int) (dn : Bool) (b : Int) (hss : In .u8 ss) (hnl : ss.length = n) (hnc : n ≤ c) (hAs : 0 < n → Option.isSome A = true) (a0 : n % 256 = 0) (hnb : n ≤ 557056) (hml : ws.length = m) (hmb : m ≤ 1000000) (hok : ChOK .u8 ws) (hwk : WOK n ws) (hWs : 0 < m → Option.isSome Wa = true) (hb : fits .i64 b) :
 CallsS Try.prog 45 [pt d, ι b] (δ d A n c ss Wa m wc ws lf dn []) (fun r D => ∃ (s : Option Addr) (t : Nat) (zs : List Int) (e : Int), r = .tuple #[ς s zs.length t, ι e] ∧ D = (κ 5 .u8 s zs.length t zs :: δ d A n c ss Wa m wc ws lf dn []) ∧ ((0 ≤ b ∧ 256 * b + 256 ≤ n ∧ e = 0 ∧ zs = seenP ss (dat ws) b ∧ zs.length = 256) ∨ (¬ (0 ≤ b ∧ 256 * b + 256 ≤ n) ∧ e = 1 ∧ zs = [])) ∧ (In .u8 zs) ∧ (zs.length ≤ t) ∧ (0 < zs.length → Option.isSome s = true)) := by
 refine CallsS.enter hU Try.f45 _ [.cell 4 22, .cell 5 28] 35 Try.func45 rfl (by decide) rfl rfl (by kernel_rfl) fun w0 W => ?_
 have S := hb; simp only [fits] at S
 refine RunC.sr ?_
 refine RunR.st (some 3) (.box 3 (.tmp 1)) (Step.box (ι b) (by kernel_rfl) (by kernel_rfl) (fun j => ?_))
 refine RunR.st (some 4) (.alloc 22) (Step.al hU 1 24 (ς0) (fun f => ?_))
 refine RunR.st (some 5) (.alloc 28) (Step.al hU 1 8 (ι 0) (fun a => ?_))
 refine RunR.nn ?_
 refine RunC.seq ?_
 refine RunC.sr ?_
 refine RunR.sl hU [] 1 1 [0, 3, 4, 5, 8] [(0, pt d), (3, pt j), (4, pt f), (5, pt a), (8, pt d)] 1 ?_
 refine RunR.st (some 9) (.load 3 (.tmp 3)) (Step.load_blk hU 2 j (0) 3 [ι b] (ι b) (by kernel_rfl) (by kernel_rfl) (by kernel_rfl) (by kernel_rfl) ?_)
 refine RunR.st (some 10) (.call { callee := .value (.func 67), args := #[.tmp 8, .tmp 9], argTypes := #[26, 3] }) (Step.cn 67 [pt d, ι b] [blk d 47 [ς A n c, ς Wa m wc, ι lf, η dn]] [blk a 28 [ι 0], blk f 22 [ς0], blk j 3 [ι b], κ 5 .u8 A n c ss, ξ Wa m wc ws, chd .u8 ws] (d_there_spec d A n c Wa m wc lf dn b ‹_› ‹_›) [3] ?_)
 rintro _ _ ⟨rfl, rfl⟩
 refine RunR.sl hU [] 1 4 [0, 3, 4, 5, 11] [(0, pt d), (3, pt j), (4, pt f), (5, pt a), (11, η (!decide (0 ≤ b ∧ 256 * b + 256 ≤ (n : Int))))] 1 ?_
 refine RunR.nn ?_
 refine RunC.condn (0 ≤ b ∧ 256 * b + 256 ≤ (n : Int)) (by kernel_rfl) (fun h4 => ?_) (fun h4 => ?_)
 ·refine RunC.sr ?_
  refine RunR.st none (.store 22 (.tmp 4) (.const (ς0))) (Step.store_blk hU 2 f 0 22 [ς0] (ς0) (by kernel_rfl) (by kernel_rfl) (by kernel_rfl) 1 rfl [ς0] (by kernel_rfl) rfl (by kernel_rfl) (by decide) ?_)
  refine RunR.st none (.store 28 (.tmp 5) (.const (ι 1))) (Step.store_blk hU 2 a 0 28 [ι 0] (ι 1) (by kernel_rfl) (by kernel_rfl) (by kernel_rfl) 1 rfl [ι 1] (by kernel_rfl) rfl (by kernel_rfl) (by decide) ?_)
  refine RunR.nn ?_
  refine RunC.ret ?_
  refine kseq_r ?_
  refine kret_rt ([κ 5 .u8 none 0 0 ([] : List Int), blk a 28 [ι 1], blk f 22 [ς0], blk d 47 [ς A n c, ς Wa m wc, ι lf, η dn], blk j 3 [ι b], κ 5 .u8 A n c ss, ξ Wa m wc ws, chd .u8 ws]) (fun w0 W w hs => (hs).nil_row 5 1) [ς0, ι 1] [0, 2, 3, 3, 3] (κ 5 .u8 none 0 0 ([] : List Int) :: δ d A n c ss Wa m wc ws lf dn []) ⟨⟨1, f, 0, 22, [ς0], rfl, rfl, by kernel_rfl⟩, ⟨0, a, 0, 28, [ι 1], rfl, rfl, by kernel_rfl⟩, trivial⟩ (by kernel_rfl) rfl ⟨none, 0, ([] : List Int), 1, rfl, rfl, (by exact .inr ⟨by assumption, rfl, rfl⟩), (by exact In.nil _), (by exact Nat.le_refl _), (by intro h; simp at h)⟩
 refine RunC.ks ?_
 refine RunC.seq ?_
 refine RunC.sr ?_
 refine RunR.sl hU [] 3 3 [0, 3, 4, 5, 14] [(0, pt d), (3, pt j), (4, pt f), (5, pt a), (14, .pointer (some ⟨d, 1, none⟩))] 3 ?_
 refine RunR.st (some 15) (.load 45 (.tmp 14)) (Step.load_blk hU 0 d (1) 47 [ς A n c, ς Wa m wc, ι lf, η dn] (ς Wa m wc) (by kernel_rfl) (by kernel_rfl) (by kernel_rfl) (by kernel_rfl) ?_)
 refine RunR.st (some 16) (.call { callee := .value (.func 68), args := #[.tmp 15], argTypes := #[45] }) (Step.cn 68 [ς Wa m wc] [] [blk d 47 [ς A n c, ς Wa m wc, ι lf, η dn], blk a 28 [ι 0], blk f 22 [ς0], blk j 3 [ι b], κ 5 .u8 A n c ss, ξ Wa m wc ws, chd .u8 ws] (sl_Backward_spec Wa m wc) [] ?_)
 rintro _ _ ⟨q, rfl, rfl⟩
 refine RunR.nn ?_
 refine RunC.block ?_
 refine RunC.env [0, 3, 4, 5, 16] [(0, pt d), (3, pt j), (4, pt f), (5, pt a), (16, .func (.func 89) #[] #[pt q])] (by kernel_rfl) ?_
 refine RunC.rangeFunc (α := List Fact) (β := List Fact) 89 [pt q] (by kernel_rfl) (ws.length) (fun i_ => [ι ((ws.length : Int) - 1 - (i_ : Nat)), .agg #[ι ((chR ws i_).1), ς ((chR ws i_).2.1) ((chR ws i_).2.2.2.length) ((chR ws i_).2.2.1)]]) (fun i_ => []) [blk q 45 [ς Wa m wc]] [vw Wa (chV ws)] (sl_Backward__it Wa m wc ws q ‹_› ‹_› ‹_› (fun h => hWs (by exact h))) (fun i_ D_ => (NoneOf ws b i_) ∧ D_ = [blk f 22 [ς0], blk a 28 [ι 0], blk d 47 [ς A n c, ς Wa m wc, ι lf, η dn], blk j 3 [ι b], κ 5 .u8 A n c ss, chd .u8 ws]) (fun D_ => D_) .ret (fun (D_ : List Fact) => ∃ (s : Option Addr) (t : Nat) (zs : List Int), (zs = seenP ss (dat ws) b) ∧ (zs.length = 256) ∧ (In .u8 zs) ∧ (zs.length ≤ t) ∧ (0 < zs.length → Option.isSome s = true) ∧ D_ = [blk f 22 [ς s zs.length t], blk a 28 [ι 0], κ 5 .u8 s zs.length t zs, blk d 47 [ς A n c, ς Wa m wc, ι lf, η dn], blk j 3 [ι b], κ 5 .u8 A n c ss, chd .u8 ws]) (fun D_ => D_) [] [ξ Wa m wc ws] [blk f 22 [ς0], blk a 28 [ι 0], blk d 47 [ς A n c, ς Wa m wc, ι lf, η dn], blk j 3 [ι b], κ 5 .u8 A n c ss, chd .u8 ws] ⟨(by exact NoneOf.zero _ _), rfl⟩ [3, 2, 1, 1, 1, 2, 0] (by kernel_rfl) (Lend.nil _) (by simp) ((Lend.nil _).tells 0 (ξ Wa m wc ws) Wa (chV ws) (by kernel_rfl) (tells_row _ _ _ _ _ _)) (fun i_ D_ hp_ f_ hf_ => by obtain ⟨_, rfl⟩ := hp_; exact List.all_eq_true.1 (by rfl : List.all _ (·.own) = true) f_ hf_) (fun D_ hq_ f_ hf_ => by obtain ⟨_, _, _, _, _, _, _, _, rfl⟩ := hq_; exact List.all_eq_true.1 (by rfl : List.all _ (·.own) = true) f_ hf_) (fun _ => rfl) (by rfl) ?_ ?_ ?_
 ·intro l_ R_ i_ _ hlt_ hp_
  obtain ⟨hno, rfl⟩ := hp_
  refine RunC.env [0, 3, 4, 5, 16, 17, 18] [(0, pt d), (3, pt j), (4, pt f), (5, pt a), (16, .func (.func 89) #[] #[pt q]), (17, ι ((ws.length : Int) - 1 - (i_ : Nat))), (18, .agg #[ι ((chR ws i_).1), ς ((chR ws i_).2.1) ((chR ws i_).2.2.2.length) ((chR ws i_).2.2.1)])] (by kernel_rfl) ?_
  refine RunC.only [0, 0, 0, 0, 0, 0, 0] [objF l_ (.loop (R_ .ready none)), blk f 22 [ς0], blk a 28 [ι 0], blk d 47 [ς A n c, ς Wa m wc, ι lf, η dn], blk j 3 [ι b], κ 5 .u8 A n c ss, chd .u8 ws] (by kernel_rfl) ?_
  have G : In .u8 (chR ws i_).2.2.2 := (chR_ok ‹_› _).1
  have Q : (chR ws i_).2.2.2.length ≤ (chR ws i_).2.2.1 := (chR_ok ‹_› _).2.1
  have R : (chR ws i_).2.2.2.length ≤ 140737488351232 := (chR_ok ‹_› _).2.2
  refine RunC.region ?_
  refine RunR.st (some 7) (.alloc 97) (Step.al hU 2 32 (.agg #[ι 0, ς0]) (fun F => ?_))
  refine RunR.st none (.store 97 (.tmp 7) (.tmp 18)) (Step.store_blk hU 0 F 0 97 [ι 0, ς0] (.agg #[ι ((chR ws i_).1), ς ((chR ws i_).2.1) ((chR ws i_).2.2.2.length) ((chR ws i_).2.2.1)]) (by kernel_rfl) (by kernel_rfl) (by kernel_rfl) 2 rfl [ι ((chR ws i_).1), ς ((chR ws i_).2.1) ((chR ws i_).2.2.2.length) ((chR ws i_).2.2.1)] (by kernel_rfl) rfl (by kernel_rfl) (by decide) ?_)
  refine RunR.dn ?_
  refine kassign_n 1 (by kernel_rfl) ?_
  refine RunC.block ?_
  refine RunC.sr ?_
  refine RunR.sl hU [] 1 1 [3, 4, 5, 7, 19] [(3, pt j), (4, pt f), (5, pt a), (7, pt F), (19, pt F)] 1 ?_
  refine RunR.st (some 20) (.load 3 (.tmp 19)) (Step.load_blk hU 1 F (0) 97 [ι ((chR ws i_).1), ς ((chR ws i_).2.1) ((chR ws i_).2.2.2.length) ((chR ws i_).2.2.1)] (ι ((chR ws i_).1)) (by kernel_rfl) (by kernel_rfl) (by kernel_rfl) (by kernel_rfl) ?_)
  refine RunR.st (some 21) (.load 3 (.tmp 3)) (Step.load_blk hU 5 j (0) 3 [ι b] (ι b) (by kernel_rfl) (by kernel_rfl) (by kernel_rfl) (by kernel_rfl) ?_)
  refine RunR.sl hU [] 1 4 [4, 5, 7, 22] [(4, pt f), (5, pt a), (7, pt F), (22, η (decide (((chR ws i_).1) = b)))] 1 ?_
  refine RunR.nn ?_
  refine RunC.condp (((chR ws i_).1) = b) (by kernel_rfl) (fun h7 => ?_) (fun h7 => ?_)
  ·refine RunC.sr ?_
   refine RunR.sl hU [] 1 1 [4, 5, 23] [(4, pt f), (5, pt a), (23, .pointer (some ⟨F, 1, none⟩))] 1 ?_
   refine RunR.st (some 24) (.load 22 (.tmp 23)) (Step.load_blk hU 1 F (1) 97 [ι ((chR ws i_).1), ς ((chR ws i_).2.1) ((chR ws i_).2.2.2.length) ((chR ws i_).2.2.1)] (ς ((chR ws i_).2.1) ((chR ws i_).2.2.2.length) ((chR ws i_).2.2.1)) (by kernel_rfl) (by kernel_rfl) (by kernel_rfl) (by kernel_rfl) ?_)
   refine RunR.st (some 25) (.call { callee := .value (.func 69), args := #[.tmp 24], argTypes := #[22] }) (Step.cl 69 [ς ((chR ws i_).2.1) ((chR ws i_).2.2.2.length) ((chR ws i_).2.2.1)] [] [ν .u8 ((chR ws i_).2.1) ((chR ws i_).2.2.2)] [objF l_ (.loop (R_ .busy none)), blk F 97 [ι ((chR ws i_).1), ς ((chR ws i_).2.1) ((chR ws i_).2.2.2.length) ((chR ws i_).2.2.1)], blk f 22 [ς0], blk a 28 [ι 0], blk d 47 [ς A n c, ς Wa m wc, ι lf, η dn], blk j 3 [ι b], κ 5 .u8 A n c ss, chd .u8 ws] (d_Clone_spec ((chR ws i_).2.1) ((chR ws i_).2.2.1) ((chR ws i_).2.2.2) ((chR ws i_).2.2.2.length) G ‹_› ‹_› (by rfl)) [] ((Lend.nil _).tells 7 (chd .u8 ws) ((chR ws i_).2.1) (nums .u8 ((chR ws i_).2.2.2)) (by kernel_rfl) (tells_chd (chR_get hlt_))) ?_)
   rintro _ _ ⟨y, v, l, rfl, rfl, E, T, K, Z, M⟩
   refine RunR.st none (.store 22 (.tmp 4) (.tmp 25)) (Step.store_blk hU 3 f 0 22 [ς0] (ς y l.length v) (by kernel_rfl) (by kernel_rfl) (by kernel_rfl) 1 rfl [ς y l.length v] (by kernel_rfl) rfl (by kernel_rfl) (by decide) ?_)
   refine RunR.st none (.store 28 (.tmp 5) (.const (ι 0))) (Step.store_blk hU 4 a 0 28 [ι 0] (ι 0) (by kernel_rfl) (by kernel_rfl) (by kernel_rfl) 1 rfl [ι 0] (by kernel_rfl) rfl (by kernel_rfl) (by decide) ?_)
   refine RunR.nn ?_
   refine RunC.ret ?_
   refine kblock_r ?_
   refine kyield_r _ [3, 1, 0, 0, 1, 1, 1, 1] [objF l_ (.loop (R_ .busy none)), blk f 22 [ς y l.length v], blk a 28 [ι 0], κ 5 .u8 y l.length v l, blk d 47 [ς A n c, ς Wa m wc, ι lf, η dn], blk j 3 [ι b], κ 5 .u8 A n c ss, chd .u8 ws] (by kernel_rfl) ⟨y, v, l, (by rw [E]; exact seen_some hlt_ hno ‹_›), (by rw [E]; exact (hwk _ (List.mem_of_getElem? (chR_get hlt_))).2.2), K, ‹_›, (fun h => M (by exact h)), (by rfl)⟩ rfl
  refine RunC.skip ?_
  refine kblock_n ?_
  refine kyield_n _ [0, 1, 1, 1, 1, 1, 1] [objF l_ (.loop (R_ .busy none)), blk f 22 [ς0], blk a 28 [ι 0], blk d 47 [ς A n c, ς Wa m wc, ι lf, η dn], blk j 3 [ι b], κ 5 .u8 A n c ss, chd .u8 ws] (by kernel_rfl) ⟨(by exact hno.succ ‹_›), (by rfl)⟩ rfl
 ·intro _ hp_
  obtain ⟨hno, rfl⟩ := hp_
  refine kblock_n ?_
  refine kseq_n ?_
  refine RunC.seq ?_
  refine RunC.regionU hU 11 [blk d 47 [ς A n c, ς Wa m wc, ι lf, η dn], blk j 3 [ι b]] [2, 3] [8, 9, 10] (bm 11 0) (by kernel_rfl) (by kernel_rfl) (by kernel_rfl) ?_
  refine RunU.sl hU 0 (bm 11 1) 26 (pt d) ?_
  refine RunU.sl hU 1 (bm 11 3) 27 (pt d) ?_
  refine RunU.sl hU 2 (bm 11 7) 28 (pt d) ?_
  refine RunU.rd 3 (bm 11 15) 29 (.load 22 (.tmp 28)) (ς A n c) [2, 3] (Reads.load_blk hU 0 d (0) 47 [ς A n c, ς Wa m wc, ι lf, η dn] (ς A n c) (by kernel_rfl) (by kernel_rfl) (by kernel_rfl)) ?_
  refine RunU.rd 4 (bm 11 31) 30 (.load 3 (.tmp 3)) (ι b) [2, 3] (Reads.load_blk hU 1 j (0) 3 [ι b] (ι b) (by kernel_rfl) (by kernel_rfl) (by kernel_rfl)) ?_
  refine RunU.sil hU true 5 (bm 11 63) 31 (ι (256 * b)) (-9223372036854775808 ≤ (256 * b) ∧ (256 * b) < 9223372036854775808) (by kernel_rfl) (by omega) (by kernel_rfl) (by kernel_rfl) (fun _ _ _ h => h) ?_
  refine RunU.sil hU false 6 (bm 11 127) 32 (ς (subBase A ((256 * b).toNat) c 1) (n - ((256 * b).toNat)) (c - ((256 * b).toNat))) (0 ≤ (256 * b) ∧ (256 * b) ≤ (n : Int)) (by kernel_rfl) (by omega) (by kernel_rfl) (by kernel_rfl) (fun _ _ _ h => h) ?_
  obtain ⟨i, x⟩ : ∃ z : List Int, z = (ss.drop ((256 * b).toNat)).take (n - ((256 * b).toNat)) := ⟨_, rfl⟩
  have N : i.length = n - ((256 * b).toNat) := by rw [x, List.length_take, List.length_drop]; omega
  have B : Tells (κ 5 .u8 A n c ss) (subBase A ((256 * b).toNat) c 1) (nums .u8 i) := by rw [x]; exact tells_sub_nums (tells_row _ _ _ _ _ _) _ _ _ (by omega) (by omega)
  have Y : 0 < i.length → Option.isSome (subBase A ((256 * b).toNat) c 1) = true := fun h => part_some (hAs (by omega)) _ _ _
  refine RunU.ev [0, 3, 4, 5, 16, 26, 27, 28, 29, 30, 31, 32] [(0, pt d), (3, pt j), (4, pt f), (5, pt a), (16, .func (.func 89) #[] #[pt q]), (26, pt d), (27, pt d), (28, pt d), (29, ς A n c), (30, ι b), (31, ι (256 * b)), (32, ς (subBase A ((256 * b).toNat) c 1) (n - ((256 * b).toNat)) (c - ((256 * b).toNat)))] ?_
  refine RunU.enveq [(0, pt d), (3, pt j), (4, pt f), (5, pt a), (16, .func (.func 89) #[] #[pt q]), (26, pt d), (27, pt d), (28, pt d), (29, ς A n c), (30, ι b), (31, ι (256 * b)), (32, ς (subBase A ((256 * b).toNat) c 1) i.length (c - ((256 * b).toNat)))] (by rw [N]) ?_
  have I : In .u8 i := by rw [x]; exact (hss.drop _).take _
  refine RunU.sil hU false 7 (bm 11 255) 33 (ς (subBase A ((256 * b).toNat) c 1) 256 (c - ((256 * b).toNat))) (0 ≤ (256 : Int) ∧ (256 : Int) ≤ ((c - ((256 * b).toNat) : Nat) : Int)) (by kernel_rfl) (by omega) (by kernel_rfl) (by kernel_rfl) (fun _ _ _ h => h) ?_
  obtain ⟨g, u⟩ : ∃ z : List Int, z = i.take 256 := ⟨_, rfl⟩
  have H : g.length = 256 := by rw [u, List.length_take]; omega
  have C : Tells (κ 5 .u8 A n c ss) (subBase A ((256 * b).toNat) c 1) (nums .u8 g) := by rw [u]; exact tells_take_nums (B) _
  refine RunU.ev [0, 3, 4, 5, 16, 26, 27, 28, 29, 30, 31, 32, 33] [(0, pt d), (3, pt j), (4, pt f), (5, pt a), (16, .func (.func 89) #[] #[pt q]), (26, pt d), (27, pt d), (28, pt d), (29, ς A n c), (30, ι b), (31, ι (256 * b)), (32, ς (subBase A ((256 * b).toNat) c 1) i.length (c - ((256 * b).toNat))), (33, ς (subBase A ((256 * b).toNat) c 1) 256 (c - ((256 * b).toNat)))] ?_
  refine RunU.enveq [(0, pt d), (3, pt j), (4, pt f), (5, pt a), (16, .func (.func 89) #[] #[pt q]), (26, pt d), (27, pt d), (28, pt d), (29, ς A n c), (30, ι b), (31, ι (256 * b)), (32, ς (subBase A ((256 * b).toNat) c 1) i.length (c - ((256 * b).toNat))), (33, ς (subBase A ((256 * b).toNat) c 1) g.length (c - ((256 * b).toNat)))] (by rw [H]) ?_
  have J : In .u8 g := by rw [u]; exact I.take _
  refine RunU.on (some 34) (.call { callee := .value (.func 69), args := #[.tmp 33], argTypes := #[22] }) 8 (bm 11 511) [] (Step.cl 69 [ς (subBase A ((256 * b).toNat) c 1) g.length (c - ((256 * b).toNat))] [] [ν .u8 (subBase A ((256 * b).toNat) c 1) g] [blk f 22 [ς0], blk a 28 [ι 0], blk d 47 [ς A n c, ς Wa m wc, ι lf, η dn], blk j 3 [ι b], κ 5 .u8 A n c ss, chd .u8 ws, ξ Wa m wc ws] (d_Clone_spec (subBase A ((256 * b).toNat) c 1) (c - ((256 * b).toNat)) g g.length J (by omega) (by omega) (by rfl)) [] ((Lend.nil _).tells 4 (κ 5 .u8 A n c ss) (subBase A ((256 * b).toNat) c 1) (nums .u8 g) (by kernel_rfl) (C)) ?_)
  rintro _ _ ⟨p, o, k, rfl, rfl, P, X, O, V, L⟩
  refine orR ?_
  refine RunU.on none (.store 22 (.tmp 4) (.tmp 34)) 9 (bm 11 1023) [] (Step.store_blk hU 1 f 0 22 [ς0] (ς p k.length o) (by kernel_rfl) (by kernel_rfl) (by kernel_rfl) 1 rfl [ς p k.length o] (by kernel_rfl) rfl (by kernel_rfl) (by decide) ?_)
  refine orR ?_
  refine RunU.on none (.store 28 (.tmp 5) (.const (ι 0))) 10 (bm 11 2047) [] (Step.store_blk hU 2 a 0 28 [ι 0] (ι 0) (by kernel_rfl) (by kernel_rfl) (by kernel_rfl) 1 rfl [ι 0] (by kernel_rfl) rfl (by kernel_rfl) (by decide) ?_)
  refine orR ?_
  refine RunU.ev [4, 5] [(4, pt f), (5, pt a)] ?_
  refine RunU.dn ?_
  refine kseq_n ?_
  refine RunC.ret ?_
  refine kret_r [ς p k.length o, ι 0] [2, 2, 3, 4, 3] (κ 5 .u8 p k.length o k :: δ d A n c ss Wa m wc ws lf dn []) ⟨⟨1, f, 0, 22, [ς p k.length o], rfl, rfl, by kernel_rfl⟩, ⟨0, a, 0, 28, [ι 0], rfl, rfl, by kernel_rfl⟩, trivial⟩ (by kernel_rfl) rfl ⟨p, o, k, 0, rfl, rfl, (by exact .inl ⟨by omega, by omega, rfl, seen_end P ‹_› ‹_› (by omega) (by omega) hno, by omega⟩), O, ‹_›, (fun h => L (by exact h))⟩
 intro _ hp_
 obtain ⟨s, t, zs, hsz, hszl, hizs, hczs, hAzs, rfl⟩ := hp_
 refine RunC.ret ?_
 refine kblock_r ?_
 refine kseq_r ?_
 refine kret_r [ς s zs.length t, ι 0] [2, 2, 3, 4, 3] (κ 5 .u8 s zs.length t zs :: δ d A n c ss Wa m wc ws lf dn []) ⟨⟨0, f, 0, 22, [ς s zs.length t], rfl, rfl, by kernel_rfl⟩, ⟨1, a, 0, 28, [ι 0], rfl, rfl, by kernel_rfl⟩, trivial⟩ (by kernel_rfl) rfl ⟨s, t, zs, 0, rfl, rfl, (by exact .inl ⟨by omega, by omega, rfl, hsz, hszl⟩), hizs, ‹_›, (fun h => hAzs (by exact h))⟩
end Go.Proofs.Ytlibhidhfbecbaa.LFileOne
