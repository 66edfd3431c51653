import Derived.Test.YtlibhidhfbecbaaOnePure
import Derived.Test.YtlibhidhfbecbaaProg
import Derived.Test.YtlibhidhfbecbaaY2
namespace Go.Proofs.Ytlibhidhfbecbaa.LFileOne
open Go Go.Proofs.Ytlibhidhfbecbaa.SL Go.Proofs.Ytlibhidhfbecbaa.SL.W Go.Proofs.Ytlibhidhfbecbaa.SL.D Go.Proofs.Ytlibhidhfbecbaa.SL.I Go.Proofs.Ytlibhidhfbecbaa.XT
set_option linter.unusedVariables false
set_option linter.unusedSimpArgs false
set_option maxRecDepth 100000
set_option maxHeartbeats 40000000
theorem fl_fit_it (fi : Nat) (wj : Nat) (mv : Value) (dd : Bool) (NA : Option Addr) (nk : Nat) (nc : Nat) (ns : List Int) (bi : Nat) (hnk : ns.length = nk) (hNA : 0 < nk → Option.isSome NA = true) (hnkc : nk ≤ nc) (hkb : nk ≤ 2048) :
 IterR Try.prog 47 [pt bi] ((frL ns).length) (fun i_ => [ι ((frL ns).getD i_ 0)]) (fun i_ => []) [blk bi 24 [pt fi], blk fi 51 [pt wj, mv, ς NA nk nc, η dd], κ 3 .i64 NA nk nc ns] [] [blk fi 51 [pt wj, mv, ς NA nk nc, η dd], κ 3 .i64 NA nk nc ns] := by
 intro l B Sx S hB hSx hS hY
 refine CallsS.enter hU Try.f47 _ [] 24 Try.func47 rfl (by decide) rfl rfl (by kernel_rfl) fun f W => ?_
 refine RunC.only [0, 0, 0, 0, 0] [S 0, blk bi 24 [pt fi], blk fi 51 [pt wj, mv, ς NA nk nc, η dd], κ 3 .i64 NA nk nc ns, B] (by kernel_rfl) ?_
 refine RunC.sr ?_
 refine RunR.st (some 5) (.load 24 (.tmp 1)) (Step.load_blk hU 1 bi (0) 24 [pt fi] (pt fi) (by kernel_rfl) (by kernel_rfl) (by kernel_rfl) (by kernel_rfl) ?_)
 refine RunR.sl hU [] 2 3 [0, 7] [(0, .func (.yield l) #[] #[]), (7, .pointer (some ⟨fi, 2, none⟩))] 2 ?_
 refine RunR.st (some 8) (.load 49 (.tmp 7)) (Step.load_blk hU 2 fi (2) 51 [pt wj, mv, ς NA nk nc, η dd] (ς NA nk nc) (by kernel_rfl) (by kernel_rfl) (by kernel_rfl) (by kernel_rfl) ?_)
 refine RunR.sl hU [] 2 6 [0, 8, 9, 10] [(0, .func (.yield l) #[] #[]), (8, ς NA nk nc), (9, ι (nk : Int)), (10, ι 0)] 2 ?_
 refine RunR.nn ?_
 refine RunC.block ?_
 refine RunC.env [0, 8, 9, 10] [(0, .func (.yield l) #[] #[]), (8, ς NA nk nc), (9, ι (nk : Int)), (10, ι 0)] (by kernel_rfl) ?_
 refine RunC.only [0, 0, 0, 0, 0] [S 0, blk bi 24 [pt fi], blk fi 51 [pt wj, mv, ς NA nk nc, η dd], κ 3 .i64 NA nk nc ns, B] (by kernel_rfl) ?_
 refine RunC.loop (σ := Nat) (fun n_ t_ D_ => ∃ (i : Int) (q : Nat), (0 ≤ i) ∧ (i ≤ (nk : Int)) ∧ (q = (frP ns i.toNat).length) ∧ n_ = ((nk - i).toNat : Nat) ∧ t_ = [(0, .func (.yield l) #[] #[]), (8, ς NA nk nc), (9, ι (nk : Int)), (10, ι i)] ∧ D_ = [S q, blk bi 24 [pt fi], blk fi 51 [pt wj, mv, ς NA nk nc, η dd], κ 3 .i64 NA nk nc ns, B]) id _ ⟨0, 0, (by first | assumption | omega | (simp only [List.length_append, List.length_cons, List.length_nil, List.length_set, List.length_replicate, List.length_take, List.length_drop]; omega) | (simp only [fits] at *; omega) | (simp only [List.length_append, List.length_cons, List.length_nil, List.length_set, List.length_replicate, List.length_take, List.length_drop] at *; omega) | (simp; done) | decide), (by first | assumption | omega | (simp only [List.length_append, List.length_cons, List.length_nil, List.length_set, List.length_replicate, List.length_take, List.length_drop]; omega) | (simp only [fits] at *; omega) | (simp only [List.length_append, List.length_cons, List.length_nil, List.length_set, List.length_replicate, List.length_take, List.length_drop] at *; omega) | (simp; done) | decide), (by rfl), rfl, rfl, rfl⟩ ?_
 rintro n_ _ _ ⟨i, q, hi, e, hq, rfl, rfl, rfl⟩
 refine RunC.sr ?_
 refine RunR.sl hU [] 1 1 [0, 8, 9, 10, 11] [(0, .func (.yield l) #[] #[]), (8, ς NA nk nc), (9, ι (nk : Int)), (10, ι i), (11, η (decide (i < (nk : Int))))] 1 ?_
 refine RunR.nn ?_
 refine RunC.seq ?_
 refine RunC.condp (i < (nk : Int)) (by kernel_rfl) (fun a => ?_) (fun a => ?_)
 ·refine RunC.ks ?_
  refine RunC.seq ?_
  refine RunC.block ?_
  refine RunC.sr ?_
  refine RunR.sil hU [] 2 2 [0, 8, 9, 10, 12, 13] [(0, .func (.yield l) #[] #[]), (8, ς NA nk nc), (9, ι (nk : Int)), (10, ι i), (12, ι i), (13, .pointer (elemAt NA i 1))] ((True) ∧ ((0 ≤ i ∧ i < (nk : Int)) ∧ Option.isSome NA = true) ∧ True) rfl (by kernel_rfl) ⟨trivial, ⟨by omega, hNA (by omega)⟩, trivial⟩ ?_
  refine RunR.st (some 14) (.load 3 (.tmp 13)) (Step.load_num hU 3 (κ 3 .i64 NA nk nc ns) NA i .i64 ns rfl (by kernel_rfl) (by kernel_rfl) (tells_row _ _ _ _ _ _) (by kernel_rfl) (by omega) ?_)
  refine RunR.sl hU [] 2 5 [0, 3, 4, 8, 9, 10] [(0, .func (.yield l) #[] #[]), (3, ι i), (4, ι (ns.getD (i).toNat 0)), (8, ς NA nk nc), (9, ι (nk : Int)), (10, ι i)] 2 ?_
  refine RunR.nx ?_
  refine RunR.sl hU [] 3 3 [0, 3, 8, 9, 10, 17] [(0, .func (.yield l) #[] #[]), (3, ι i), (8, ς NA nk nc), (9, ι (nk : Int)), (10, ι i), (17, η (decide ((ns.getD (i).toNat 0) = 0)))] 3 ?_
  refine RunR.ev [0, 3, 8, 9, 10, 17] [(0, .func (.yield l) #[] #[]), (3, ι i), (8, ς NA nk nc), (9, ι (nk : Int)), (10, ι i), (17, η (decide ((ns.getD (i).toNat 0) = 0)))] ?_
  by_cases h2 : (ns.getD (i).toNat 0) = 0
  ·refine RunR.enveq [(0, .func (.yield l) #[] #[]), (3, ι i), (8, ς NA nk nc), (9, ι (nk : Int)), (10, ι i), (17, η true)] (by rw [decide_eq_true h2]; try rfl) ?_
   refine RunR.sl hU [] 2 5 [0, 8, 9, 10, 17, 18, 19] [(0, .func (.yield l) #[] #[]), (8, ς NA nk nc), (9, ι (nk : Int)), (10, ι i), (17, η true), (18, .func (.yield l) #[] #[]), (19, ι i)] 2 ?_
   refine RunR.ev [0, 8, 9, 10, 17, 18, 19] [(0, .func (.yield l) #[] #[]), (8, ς NA nk nc), (9, ι (nk : Int)), (10, ι i), (17, η true), (18, .func (.yield l) #[] #[]), (19, ι i)] ?_
   refine RunR.enveq [(0, .func (.yield l) #[] #[]), (8, ς NA nk nc), (9, ι (nk : Int)), (10, ι i), (17, η true), (18, .func (.yield l) #[] #[]), (19, ι ((frL ns).getD q 0))] (by rw [(fr_at hi (by omega) ‹_› hq).1]) ?_
   refine RunR.yield (d := some 20) (c := (.tmp 18)) (os_ := #[.tmp 19]) (ts := #[3]) l [ι ((frL ns).getD q 0)] (by kernel_rfl) (by kernel_rfl) (by kernel_rfl) (by kernel_rfl) [S q] [B] [blk bi 24 [pt fi], blk fi 51 [pt wj, mv, ς NA nk nc, η dd], κ 3 .i64 NA nk nc ns, B] (hY q ((fr_at hi (by omega) ‹_› hq).2)) [0] (by kernel_rfl) ((Lend.nil _).same 3 B (by kernel_rfl) hB) ?_
   rintro _ _ (⟨rfl, rfl⟩ | ⟨rfl, rfl⟩)
   ·refine RunR.sl hU [] 2 8 [0, 8, 9, 10, 22] [(0, .func (.yield l) #[] #[]), (8, ς NA nk nc), (9, ι (nk : Int)), (10, ι i), (22, η false)] 2 ?_
    refine RunR.nn ?_
    refine RunC.cond (b := false) (by kernel_rfl) (fun h => by cases h) (fun _ => ?_)
    refine RunC.skip ?_
    refine kblock_n ?_
    refine kseq_n ?_
    refine RunC.region ?_
    refine RunR.sil hU [0] 2 2 [0, 8, 9, 10] [(0, .func (.yield l) #[] #[]), (8, ς NA nk nc), (9, ι (nk : Int)), (10, ι (i + 1))] ((-9223372036854775808 ≤ (i + 1) ∧ (i + 1) < 9223372036854775808) ∧ (True) ∧ True) rfl (by kernel_rfl) ⟨(by omega), trivial, trivial⟩ ?_
    refine RunR.dn ?_
    refine kloop_n _ [0, 8, 9, 10] [0, 0, 0, 0, 0] [(0, .func (.yield l) #[] #[]), (8, ς NA nk nc), (9, ι (nk : Int)), (10, ι (i + 1))] [S (q + 1), blk bi 24 [pt fi], blk fi 51 [pt wj, mv, ς NA nk nc, η dd], κ 3 .i64 NA nk nc ns, B] (by kernel_rfl) (by kernel_rfl) ?_ ⟨(i + 1), (q + 1), (by first | assumption | omega | (simp only [List.length_append, List.length_cons, List.length_nil, List.length_set, List.length_replicate, List.length_take, List.length_drop]; omega) | (simp only [fits] at *; omega) | (simp only [List.length_append, List.length_cons, List.length_nil, List.length_set, List.length_replicate, List.length_take, List.length_drop] at *; omega) | (simp; done) | decide), (by first | assumption | omega | (simp only [List.length_append, List.length_cons, List.length_nil, List.length_set, List.length_replicate, List.length_take, List.length_drop]; omega) | (simp only [fits] at *; omega) | (simp only [List.length_append, List.length_cons, List.length_nil, List.length_set, List.length_replicate, List.length_take, List.length_drop] at *; omega) | (simp; done) | decide), (by first | exact fr_put hi ‹_› hq | exact fr_skip hi ‹_› hq), rfl, (by first | rfl | simp only [List.length_set]), (by first | rfl | simp only [List.length_set])⟩
    show ((nk - (i + 1)).toNat : Nat) < ((nk - i).toNat : Nat)
    omega
   refine RunR.sl hU [] 2 8 [0, 8, 9, 10, 22] [(0, .func (.yield l) #[] #[]), (8, ς NA nk nc), (9, ι (nk : Int)), (10, ι i), (22, η true)] 2 ?_
   refine RunR.nn ?_
   refine RunC.cond (b := true) (by kernel_rfl) (fun _ => ?_) (fun h => by cases h)
   refine RunC.ret ?_
   refine kblock_r ?_
   refine kseq_r ?_
   refine kloop_r ?_
   refine kblock_r ?_
   refine kret_r [] [0, 1, 1] [Sx, blk fi 51 [pt wj, mv, ς NA nk nc, η dd], κ 3 .i64 NA nk nc ns] trivial (by kernel_rfl) (by rw [List.all_cons, hSx, Bool.true_and]; rfl) (.inr rfl)
  refine RunR.enveq [(0, .func (.yield l) #[] #[]), (3, ι i), (8, ς NA nk nc), (9, ι (nk : Int)), (10, ι i), (17, η false)] (by rw [decide_eq_false h2]; try rfl) ?_
  refine RunR.sl hU [] 5 8 [0, 8, 9, 10, 22] [(0, .func (.yield l) #[] #[]), (8, ς NA nk nc), (9, ι (nk : Int)), (10, ι i), (22, η false)] 1 ?_
  refine RunR.nn ?_
  refine RunC.cond (b := false) (by kernel_rfl) (fun h => by cases h) (fun _ => ?_)
  refine RunC.skip ?_
  refine kblock_n ?_
  refine kseq_n ?_
  refine RunC.region ?_
  refine RunR.sil hU [0] 2 2 [0, 8, 9, 10] [(0, .func (.yield l) #[] #[]), (8, ς NA nk nc), (9, ι (nk : Int)), (10, ι (i + 1))] ((-9223372036854775808 ≤ (i + 1) ∧ (i + 1) < 9223372036854775808) ∧ (True) ∧ True) rfl (by kernel_rfl) ⟨(by omega), trivial, trivial⟩ ?_
  refine RunR.dn ?_
  refine kloop_n _ [0, 8, 9, 10] [0, 0, 0, 0, 0] [(0, .func (.yield l) #[] #[]), (8, ς NA nk nc), (9, ι (nk : Int)), (10, ι (i + 1))] [S q, blk bi 24 [pt fi], blk fi 51 [pt wj, mv, ς NA nk nc, η dd], κ 3 .i64 NA nk nc ns, B] (by kernel_rfl) (by kernel_rfl) ?_ ⟨(i + 1), q, (by first | assumption | omega | (simp only [List.length_append, List.length_cons, List.length_nil, List.length_set, List.length_replicate, List.length_take, List.length_drop]; omega) | (simp only [fits] at *; omega) | (simp only [List.length_append, List.length_cons, List.length_nil, List.length_set, List.length_replicate, List.length_take, List.length_drop] at *; omega) | (simp; done) | decide), (by first | assumption | omega | (simp only [List.length_append, List.length_cons, List.length_nil, List.length_set, List.length_replicate, List.length_take, List.length_drop]; omega) | (simp only [fits] at *; omega) | (simp only [List.length_append, List.length_cons, List.length_nil, List.length_set, List.length_replicate, List.length_take, List.length_drop] at *; omega) | (simp; done) | decide), (by first | exact fr_put hi ‹_› hq | exact fr_skip hi ‹_› hq), rfl, (by first | rfl | simp only [List.length_set]), (by first | rfl | simp only [List.length_set])⟩
  show ((nk - (i + 1)).toNat : Nat) < ((nk - i).toNat : Nat)
  omega
 refine RunC.exit ?_
 refine kseq_e ?_
 refine kloop_e ?_
 refine kblock_e ?_
 refine kret_n [] [0, 1, 1] [S q, blk fi 51 [pt wj, mv, ς NA nk nc, η dd], κ 3 .i64 NA nk nc ns] trivial (by kernel_rfl) (by rw [List.all_cons, hS, Bool.true_and]; rfl) (.inl (by rw [show (q : Nat) = (frL ns).length by exact fr_all hq (by omega)]))
theorem fl_frees_spec (fi : Nat) :
 CallsS Try.prog 24 [pt fi] [] (fun r D => ∃ (bi : Nat), r = .func (.func 47) #[] #[pt bi] ∧ D = [blk bi 24 [pt fi]]) := by
 refine CallsS.enter hU Try.f24 _ [.tmp 2] 4 Try.func24 rfl (by decide) rfl rfl (by kernel_rfl) fun b W => ?_
 refine RunC.sr ?_
 refine RunR.st (some 1) (.box 24 (.tmp 0)) (Step.box (pt fi) (by kernel_rfl) (by kernel_rfl) (fun a => ?_))
 refine RunR.sl hU [] 1 2 [1, 2] [(1, pt a), (2, .nilFunc)] 1 ?_
 refine RunR.nx ?_
 refine RunR.sl hU [] 2 2 [2] [(2, .func (.func 47) #[] #[pt a])] 2 ?_
 refine RunR.nn ?_
 refine RunC.ret ?_
 refine kret_r [.func (.func 47) #[] #[pt a]] [0] [blk a 24 [pt fi]] ⟨rfl, trivial⟩ (by kernel_rfl) rfl ⟨a, rfl, rfl⟩
theorem fl_Free_spec (fi : Nat) (wj : Nat) (mv : Value) (dd : Bool) (NA : Option Addr) (nk : Nat) (nc : Nat) (ns : List Int) (hnk : ns.length = nk) (hNA : 0 < nk → Option.isSome NA = true) (hnkc : nk ≤ nc) (hkb : nk ≤ 2048) :
 CallsS Try.prog 11 [pt fi] [blk fi 51 [pt wj, mv, ς NA nk nc, η dd], κ 3 .i64 NA nk nc ns] (fun r D => r = ι ((frL ns).length : Int) ∧ D = [blk fi 51 [pt wj, mv, ς NA nk nc, η dd], κ 3 .i64 NA nk nc ns] ∧ ((frL ns).length ≤ 2048)) := by
 refine CallsS.enter hU Try.f11 _ [.tmp 2] 10 Try.func11 rfl (by decide) rfl rfl (by kernel_rfl) fun c W => ?_
 have hfr := frP_le ns ns.length; rw [show frP ns ns.length = frL ns from rfl] at hfr
 refine RunC.sr ?_
 refine RunR.sl hU [] 1 1 [0, 2] [(0, pt fi), (2, ι 0)] 1 ?_
 refine RunR.nx ?_
 refine RunR.st (some 3) (.alloc 3) (Step.al hU 1 8 (ι 0) (fun a => ?_))
 refine RunR.st none (.store 3 (.tmp 3) (.const (ι 0))) (Step.store_blk hU 0 a 0 3 [ι 0] (ι 0) (by kernel_rfl) (by kernel_rfl) (by kernel_rfl) 1 rfl [ι 0] (by kernel_rfl) rfl (by kernel_rfl) (by decide) ?_)
 refine RunR.nn ?_
 refine RunC.seq ?_
 refine RunC.sr ?_
 refine RunR.sl hU [] 1 1 [2, 3, 4] [(2, ι 0), (3, pt a), (4, pt fi)] 1 ?_
 refine RunR.st (some 5) (.call { callee := .value (.func 24), args := #[.tmp 4], argTypes := #[24] }) (Step.cn 24 [pt fi] [] [blk a 3 [ι 0], blk fi 51 [pt wj, mv, ς NA nk nc, η dd], κ 3 .i64 NA nk nc ns] (fl_frees_spec fi) [] ?_)
 rintro _ _ ⟨b, rfl, rfl⟩
 refine RunR.nn ?_
 refine RunC.block ?_
 refine RunC.env [2, 3, 5] [(2, ι 0), (3, pt a), (5, .func (.func 47) #[] #[pt b])] (by kernel_rfl) ?_
 refine RunC.rangeFuncR (α := List Fact) (β := List Fact) 47 [pt b] (by kernel_rfl) ((frL ns).length) (fun i_ => [ι ((frL ns).getD i_ 0)]) (fun i_ => []) [blk b 24 [pt fi], blk fi 51 [pt wj, mv, ς NA nk nc, η dd], κ 3 .i64 NA nk nc ns] [] [blk fi 51 [pt wj, mv, ς NA nk nc, η dd], κ 3 .i64 NA nk nc ns] (fl_fit_it fi wj mv dd NA nk nc ns b ‹_› (fun h => hNA (by exact h)) ‹_› ‹_›) (fun i_ D_ => ∃ (k : Int), (k = (i_ : Int)) ∧ D_ = [blk a 3 [ι k]]) (fun D_ => D_) .ret (fun (_ : List Fact) => False) (fun D_ => D_) [] [] [blk a 3 [ι 0]] ⟨0, (by rfl), rfl⟩ [1, 0, 0, 0] (by kernel_rfl) (Lend.nil _) (by simp) (Lend.nil _) (fun i_ D_ hp_ f_ hf_ => by obtain ⟨_, _, rfl⟩ := hp_; exact List.all_eq_true.1 (by rfl : List.all _ (·.own) = true) f_ hf_) (fun _ h => h.elim) (fun _ => rfl) (by rfl) ?_ ?_ (fun _ h => h.elim)
 ·intro l_ R_ i_ _ hlt_ hp_
  obtain ⟨k, hk, rfl⟩ := hp_
  refine RunC.env [2, 3, 5, 6] [(2, ι 0), (3, pt a), (5, .func (.func 47) #[] #[pt b]), (6, ι ((frL ns).getD i_ 0))] (by kernel_rfl) ?_
  refine RunC.only [0, 0] [objF l_ (.loop (R_ .ready none)), blk a 3 [ι k]] (by kernel_rfl) ?_
  refine RunC.skip ?_
  refine kassign_n 0 (by kernel_rfl) ?_
  refine RunC.block ?_
  refine RunC.region ?_
  refine RunR.st (some 7) (.load 3 (.tmp 3)) (Step.load_blk hU 1 a (0) 3 [ι k] (ι k) (by kernel_rfl) (by kernel_rfl) (by kernel_rfl) (by kernel_rfl) ?_)
  refine RunR.sil hU [1] 1 2 [3, 8] [(3, pt a), (8, ι (k + 1))] ((-9223372036854775808 ≤ (k + 1) ∧ (k + 1) < 9223372036854775808) ∧ True) rfl (by kernel_rfl) ⟨(by omega), trivial⟩ ?_
  refine RunR.st none (.store 3 (.tmp 3) (.tmp 8)) (Step.store_blk hU 1 a 0 3 [ι k] (ι (k + 1)) (by kernel_rfl) (by kernel_rfl) (by kernel_rfl) 1 rfl [ι (k + 1)] (by kernel_rfl) rfl (by kernel_rfl) (by simp) ?_)
  refine RunR.dn ?_
  refine kblock_n ?_
  refine kyield_n _ [1, 0] [objF l_ (.loop (R_ .busy none)), blk a 3 [ι (k + 1)]] (by kernel_rfl) ⟨(k + 1), (by omega), (by rfl)⟩ rfl
 intro _ hp_
 obtain ⟨k, hk, rfl⟩ := hp_
 refine kblock_n ?_
 refine kseq_n ?_
 refine RunC.sr ?_
 refine RunR.st (some 9) (.load 3 (.tmp 3)) (Step.load_blk hU 0 a (0) 3 [ι k] (ι k) (by kernel_rfl) (by kernel_rfl) (by kernel_rfl) (by kernel_rfl) ?_)
 refine RunR.sl hU [] 1 2 [2] [(2, ι k)] 1 ?_
 refine RunR.nn ?_
 refine RunC.ret ?_
 refine kret_r [ι k] [1, 1] [blk fi 51 [pt wj, mv, ς NA nk nc, η dd], κ 3 .i64 NA nk nc ns] ⟨rfl, trivial⟩ (by kernel_rfl) rfl ⟨(by (exact congrArg (Value.int .i64) hk)), (by rfl), (by omega)⟩
theorem fl_may_spec (fi : Nat) (wj : Nat) (dd : Bool) (mp : Nat) (Fs : List Fe) (fc : Nat) (NA : Option Addr) (nk : Nat) (nc : Nat) (ns : List Int) (La : Option Addr) (lm : Nat) (lc : Nat) (ls : List Fc) (hFe : FeOK Fs) (hFm : FMOK Fs fc) (hnk : ns.length = nk) (hNA : 0 < nk → Option.isSome NA = true) (hnkc : nk ≤ nc) (hkb : nk ≤ 2048) (hll : ls.length = lm) (hlb : lm ≤ 100000) (hlok : RowsOK .u8 (fcR ls)) (hFn : Fs.length ≤ 100000) :
 CallsS Try.prog 14 [pt fi, ς La lm lc] (ζ fi wj mp Fs fc NA nk nc ns dd [vw La (recV fcC ls), vws (rowsL .u8 (fcR ls))]) (fun r D => ∃ (e : Int), r = ι e ∧ D = (ζ fi wj mp Fs fc NA nk nc ns dd []) ∧ (e = mayF (fcon Fs) (ca ls) (frL ns).length)) := by
 refine CallsS.enter hU Try.f14 _ [.tmp 4] 89 Try.func14 rfl (by decide) rfl rfl (by kernel_rfl) fun w0 W => ?_
 refine RunC.know (p := 0 < ls.length * 3 → Option.isSome La = true) (fun _ _ w hs => vw_some hs 3 rfl (by exact fcV_len _)) (fun S => ?_)
 refine RunC.sr ?_
 refine RunR.sl hU [] 1 1 [0, 1, 4] [(0, pt fi), (1, ς La lm lc), (4, ι 0)] 1 ?_
 refine RunR.nx ?_
 refine RunR.st (some 13) (.makeMap 81 none) (Step.newMap (by kernel_rfl) (fun d => ?_))
 refine RunR.sl hU [] 1 2 [0, 1, 4, 5] [(0, pt fi), (1, ς La lm lc), (4, ι 0), (5, .map (some d))] 1 ?_
 refine RunR.nx ?_
 refine RunR.sl hU [] 3 3 [0, 1, 4, 5, 16] [(0, pt fi), (1, ς La lm lc), (4, ι 0), (5, .map (some d)), (16, .pointer (some ⟨fi, 1, none⟩))] 3 ?_
 refine RunR.st (some 17) (.load 48 (.tmp 16)) (Step.load_blk hU 1 fi (1) 51 [pt wj, .map (some mp), ς NA nk nc, η dd] (.map (some mp)) (by kernel_rfl) (by kernel_rfl) (by kernel_rfl) (by kernel_rfl) ?_)
 refine RunR.st (some 18) (.call { callee := .builtin .len, args := #[.tmp 17], argTypes := #[48] }) (Step.lenFe hU 2 9 63 mp fc Fs (by kernel_rfl) (by kernel_rfl) (by kernel_rfl) (by kernel_rfl) ?_)
 refine RunR.sl hU [] 2 7 [0, 1, 4, 5, 6, 7] [(0, pt fi), (1, ς La lm lc), (4, ι 0), (5, .map (some d)), (6, ι (Fs.length : Int)), (7, ι 0)] 2 ?_
 refine RunR.nx ?_
 refine RunR.sl hU [] 1 1 [0, 1, 4, 5, 6, 7, 8] [(0, pt fi), (1, ς La lm lc), (4, ι 0), (5, .map (some d)), (6, ι (Fs.length : Int)), (7, ι 0), (8, η false)] 1 ?_
 refine RunR.nn ?_
 refine RunC.seq ?_
 refine RunC.sr ?_
 refine RunR.sl hU [] 3 3 [0, 4, 5, 6, 7, 8, 19, 20, 21] [(0, pt fi), (4, ι 0), (5, .map (some d)), (6, ι (Fs.length : Int)), (7, ι 0), (8, η false), (19, ς La lm lc), (20, ι (lm : Int)), (21, ι 0)] 3 ?_
 refine RunR.nn ?_
 refine RunC.block ?_
 refine RunC.env [0, 5, 6, 7, 8, 19, 20, 21] [(0, pt fi), (5, .map (some d)), (6, ι (Fs.length : Int)), (7, ι 0), (8, η false), (19, ς La lm lc), (20, ι (lm : Int)), (21, ι 0)] (by kernel_rfl) ?_
 refine RunC.only [0, 0, 0, 0, 0, 0] (mpf d (([] : List Im).map imM) 0 :: ζ fi wj mp Fs fc NA nk nc ns dd [vw La (recV fcC ls), vws (rowsL .u8 (fcR ls))]) (by kernel_rfl) ?_
 refine RunC.loop (σ := Nat) (fun n_ t_ D_ => ∃ (i : Int) (f : Int) (b : Int) (ms : Bool) (L : List Im) (ic : Nat), (0 ≤ i) ∧ (i ≤ (lm : Int)) ∧ (mayS (fcon Fs) (ca ls) i.toNat = some (f, b, ms)) ∧ (SeenI L (ca ls) i.toNat) ∧ (IMOK L ic) ∧ (- i ≤ f ∧ f ≤ i + 100000) ∧ (0 ≤ b ∧ b ≤ 1000000000000 * i) ∧ n_ = ((lm - i).toNat : Nat) ∧ t_ = [(0, pt fi), (5, .map (some d)), (6, ι f), (7, ι b), (8, η ms), (19, ς La lm lc), (20, ι (lm : Int)), (21, ι i)] ∧ D_ = (mpf d (L.map imM) ic :: ζ fi wj mp Fs fc NA nk nc ns dd [vw La (recV fcC ls), vws (rowsL .u8 (fcR ls))])) id _ ⟨0, (Fs.length : Int), 0, false, ([] : List Im), 0, (by omega), (by omega), (by exact mayS_0), (by exact SeenI.nil _), (by exact IMOK.nil), (by omega), (by omega), rfl, rfl, rfl⟩ ?_
 rintro n_ _ _ ⟨i, f, b, ms, L, ic, hi, y0, hst, hse, hIM, hf, hb, rfl, rfl, rfl⟩
 refine RunC.sr ?_
 refine RunR.sl hU [] 1 1 [0, 5, 6, 7, 8, 19, 20, 21, 22] [(0, pt fi), (5, .map (some d)), (6, ι f), (7, ι b), (8, η ms), (19, ς La lm lc), (20, ι (lm : Int)), (21, ι i), (22, η (decide (i < (lm : Int))))] 1 ?_
 refine RunR.nn ?_
 refine RunC.seq ?_
 refine RunC.condp (i < (lm : Int)) (by kernel_rfl) (fun h3 => ?_) (fun h3 => ?_)
 ·refine RunC.ks ?_
  refine RunC.seq ?_
  refine RunC.block ?_
  refine RunC.sr ?_
  refine RunR.sil hU [] 1 1 [0, 5, 6, 7, 8, 19, 20, 21, 23] [(0, pt fi), (5, .map (some d)), (6, ι f), (7, ι b), (8, η ms), (19, ς La lm lc), (20, ι (lm : Int)), (21, ι i), (23, .pointer (elemAt La i 3))] (((0 ≤ i ∧ i < (lm : Int)) ∧ Option.isSome La = true) ∧ True) rfl (by kernel_rfl) ⟨⟨by omega, S (by omega)⟩, trivial⟩ ?_
  obtain ⟨a, j, k, l, g, m, l0, g0, r0⟩ := fc_at (by assumption : RowsOK .u8 (fcR ls)) (i := (i).toNat) (by omega)
  refine RunR.st (some 24) (.load 31 (.tmp 23)) (Step.load_of hU 4 (vw La (recV fcC ls)) La i 3 (recV fcC ls) (.agg #[.string a, ς k g.length l, η j]) (by kernel_rfl) (by kernel_rfl) (tells_vw _ _) (loadv_rec fcC_len (by kernel_rfl) (by kernel_rfl) m) (by kernel_rfl) (by rw [fcV_len]; omega) ?_)
  refine RunR.st (some 10) (.alloc 31) (Step.al hU 3 48 (.agg #[.string ⟨#[]⟩, ς0, η false]) (fun c => ?_))
  refine RunR.st none (.store 31 (.tmp 10) (.tmp 24)) (Step.store_blk hU 0 c 0 31 [.string ⟨#[]⟩, ς0, η false] (.agg #[.string a, ς k g.length l, η j]) (by kernel_rfl) (by kernel_rfl) (by kernel_rfl) 3 rfl [.string a, ς k g.length l, η j] (by kernel_rfl) rfl (by kernel_rfl) (by decide) ?_)
  refine RunR.nx ?_
  refine RunR.sl hU [] 2 2 [0, 5, 6, 7, 8, 10, 19, 20, 21, 25, 26] [(0, pt fi), (5, .map (some d)), (6, ι f), (7, ι b), (8, η ms), (10, pt c), (19, ς La lm lc), (20, ι (lm : Int)), (21, ι i), (25, .map (some d)), (26, pt c)] 2 ?_
  refine RunR.st (some 27) (.load 9 (.tmp 26)) (Step.load_blk hU 0 c (0) 31 [.string a, ς k g.length l, η j] (.string a) (by kernel_rfl) (by kernel_rfl) (by kernel_rfl) (by kernel_rfl) ?_)
  refine RunR.st (some 28) (.lookup 81 (.tmp 25) (.tmp 27) false) (Step.lookupI hU 1 9 3 d ic 8 L a (by kernel_rfl) (by kernel_rfl) (by kernel_rfl) (by kernel_rfl) (by kernel_rfl) (by kernel_rfl) (by kernel_rfl) ?_)
  have k0 := hse.bd a
  refine RunR.sil hU [4] 1 5 [0, 5, 6, 7, 8, 10, 19, 20, 21, 25, 27, 29] [(0, pt fi), (5, .map (some d)), (6, ι f), (7, ι b), (8, η ms), (10, pt c), (19, ς La lm lc), (20, ι (lm : Int)), (21, ι i), (25, .map (some d)), (27, .string a), (29, ι ((iget L a) + 1))] ((-9223372036854775808 ≤ ((iget L a) + 1) ∧ ((iget L a) + 1) < 9223372036854775808) ∧ True) rfl (by kernel_rfl) ⟨(by omega), trivial⟩ ?_
  refine RunR.st none (.mapUpdate 81 (.tmp 25) (.tmp 27) (.tmp 29)) (Step.updateI hU 1 9 3 d ic L a ((iget L a) + 1) (by kernel_rfl) (by kernel_rfl) (by kernel_rfl) (by kernel_rfl) (by kernel_rfl) (by kernel_rfl) (by assumption : IMOK L ic) ?_)
  refine RunR.nn ?_
  refine RunC.seq ?_
  refine RunC.sr ?_
  refine RunR.sl hU [] 1 1 [0, 5, 6, 7, 8, 10, 19, 20, 21, 30] [(0, pt fi), (5, .map (some d)), (6, ι f), (7, ι b), (8, η ms), (10, pt c), (19, ς La lm lc), (20, ι (lm : Int)), (21, ι i), (30, pt c)] 1 ?_
  refine RunR.st (some 31) (.load 9 (.tmp 30)) (Step.load_blk hU 1 c (0) 31 [.string a, ς k g.length l, η j] (.string a) (by kernel_rfl) (by kernel_rfl) (by kernel_rfl) (by kernel_rfl) ?_)
  refine RunR.sl hU [] 3 5 [0, 5, 6, 7, 8, 10, 19, 20, 21, 34] [(0, pt fi), (5, .map (some d)), (6, ι f), (7, ι b), (8, η ms), (10, pt c), (19, ς La lm lc), (20, ι (lm : Int)), (21, ι i), (34, η (decide (((a : ByteArray).size : Int) < 1)))] 3 ?_
  refine RunR.ev [0, 5, 6, 7, 8, 10, 19, 20, 21, 34] [(0, pt fi), (5, .map (some d)), (6, ι f), (7, ι b), (8, η ms), (10, pt c), (19, ς La lm lc), (20, ι (lm : Int)), (21, ι i), (34, η (decide (((a : ByteArray).size : Int) < 1)))] ?_
  by_cases h15 : ((a : ByteArray).size : Int) < 1
  ·refine RunR.enveq [(0, pt fi), (5, .map (some d)), (6, ι f), (7, ι b), (8, η ms), (10, pt c), (19, ς La lm lc), (20, ι (lm : Int)), (21, ι i), (34, η true)] (by rw [decide_eq_true h15]; try rfl) ?_
   refine RunR.sl hU [] 12 17 [0, 5, 6, 7, 8, 10, 19, 20, 21, 46] [(0, pt fi), (5, .map (some d)), (6, ι f), (7, ι b), (8, η ms), (10, pt c), (19, ς La lm lc), (20, ι (lm : Int)), (21, ι i), (46, η true)] 3 ?_
   refine RunR.nn ?_
   refine RunC.cond (b := true) (by kernel_rfl) (fun _ => ?_) (fun h => by cases h)
   refine RunC.sr ?_
   refine RunR.sl hU [] 1 1 [0, 4, 5, 6, 7, 8, 10, 19, 20, 21] [(0, pt fi), (4, ι 1), (5, .map (some d)), (6, ι f), (7, ι b), (8, η ms), (10, pt c), (19, ς La lm lc), (20, ι (lm : Int)), (21, ι i)] 1 ?_
   refine RunR.nn ?_
   refine RunC.ret ?_
   refine kseq_r ?_
   refine kblock_r ?_
   refine kseq_r ?_
   refine kloop_r ?_
   refine kblock_r ?_
   refine kseq_r ?_
   refine kret_r [ι 1] [2, 2, 2] (ζ fi wj mp Fs fc NA nk nc ns dd []) ⟨rfl, trivial⟩ (by kernel_rfl) rfl ⟨1, rfl, rfl, (by exact may_arg hst (ca_get m) (by exact .inl (by omega)))⟩
  refine RunR.enveq [(0, pt fi), (5, .map (some d)), (6, ι f), (7, ι b), (8, η ms), (10, pt c), (19, ς La lm lc), (20, ι (lm : Int)), (21, ι i), (34, η false)] (by rw [decide_eq_false h15]; try rfl) ?_
  refine RunR.sl hU [] 1 6 [0, 5, 6, 7, 8, 10, 19, 20, 21, 34, 35] [(0, pt fi), (5, .map (some d)), (6, ι f), (7, ι b), (8, η ms), (10, pt c), (19, ς La lm lc), (20, ι (lm : Int)), (21, ι i), (34, η false), (35, pt c)] 1 ?_
  refine RunR.st (some 36) (.load 9 (.tmp 35)) (Step.load_blk hU 1 c (0) 31 [.string a, ς k g.length l, η j] (.string a) (by kernel_rfl) (by kernel_rfl) (by kernel_rfl) (by kernel_rfl) ?_)
  refine RunR.sl hU [] 4 11 [0, 5, 6, 7, 8, 10, 19, 20, 21, 40] [(0, pt fi), (5, .map (some d)), (6, ι f), (7, ι b), (8, η ms), (10, pt c), (19, ς La lm lc), (20, ι (lm : Int)), (21, ι i), (40, η (decide (((a : ByteArray).size : Int) > 40)))] 4 ?_
  refine RunR.ev [0, 5, 6, 7, 8, 10, 19, 20, 21, 40] [(0, pt fi), (5, .map (some d)), (6, ι f), (7, ι b), (8, η ms), (10, pt c), (19, ς La lm lc), (20, ι (lm : Int)), (21, ι i), (40, η (decide (((a : ByteArray).size : Int) > 40)))] ?_
  by_cases h16 : ((a : ByteArray).size : Int) > 40
  ·refine RunR.enveq [(0, pt fi), (5, .map (some d)), (6, ι f), (7, ι b), (8, η ms), (10, pt c), (19, ς La lm lc), (20, ι (lm : Int)), (21, ι i), (40, η true)] (by rw [decide_eq_true h16]; try rfl) ?_
   refine RunR.sl hU [] 6 17 [0, 5, 6, 7, 8, 10, 19, 20, 21, 46] [(0, pt fi), (5, .map (some d)), (6, ι f), (7, ι b), (8, η ms), (10, pt c), (19, ς La lm lc), (20, ι (lm : Int)), (21, ι i), (46, η true)] 1 ?_
   refine RunR.nn ?_
   refine RunC.cond (b := true) (by kernel_rfl) (fun _ => ?_) (fun h => by cases h)
   refine RunC.sr ?_
   refine RunR.sl hU [] 1 1 [0, 4, 5, 6, 7, 8, 10, 19, 20, 21] [(0, pt fi), (4, ι 1), (5, .map (some d)), (6, ι f), (7, ι b), (8, η ms), (10, pt c), (19, ς La lm lc), (20, ι (lm : Int)), (21, ι i)] 1 ?_
   refine RunR.nn ?_
   refine RunC.ret ?_
   refine kseq_r ?_
   refine kblock_r ?_
   refine kseq_r ?_
   refine kloop_r ?_
   refine kblock_r ?_
   refine kseq_r ?_
   refine kret_r [ι 1] [2, 2, 2] (ζ fi wj mp Fs fc NA nk nc ns dd []) ⟨rfl, trivial⟩ (by kernel_rfl) rfl ⟨1, rfl, rfl, (by exact may_arg hst (ca_get m) (by exact .inr (.inl (by omega))))⟩
  refine RunR.enveq [(0, pt fi), (5, .map (some d)), (6, ι f), (7, ι b), (8, η ms), (10, pt c), (19, ς La lm lc), (20, ι (lm : Int)), (21, ι i), (40, η false)] (by rw [decide_eq_false h16]; try rfl) ?_
  refine RunR.sl hU [] 2 13 [0, 5, 6, 7, 8, 10, 19, 20, 21, 40, 41, 42] [(0, pt fi), (5, .map (some d)), (6, ι f), (7, ι b), (8, η ms), (10, pt c), (19, ς La lm lc), (20, ι (lm : Int)), (21, ι i), (40, η false), (41, .map (some d)), (42, pt c)] 2 ?_
  refine RunR.st (some 43) (.load 9 (.tmp 42)) (Step.load_blk hU 1 c (0) 31 [.string a, ς k g.length l, η j] (.string a) (by kernel_rfl) (by kernel_rfl) (by kernel_rfl) (by kernel_rfl) ?_)
  refine RunR.st (some 44) (.lookup 81 (.tmp 41) (.tmp 43) false) (Step.lookupI hU 0 9 3 d (iclock L ic a) 8 (iput L ic a ((iget L a) + 1)) a (by kernel_rfl) (by kernel_rfl) (by kernel_rfl) (by kernel_rfl) (by kernel_rfl) (by kernel_rfl) (by kernel_rfl) ?_)
  have d0 := hse.bd a
  refine RunR.sl hU [] 2 17 [0, 5, 6, 7, 8, 10, 19, 20, 21, 46] [(0, pt fi), (5, .map (some d)), (6, ι f), (7, ι b), (8, η ms), (10, pt c), (19, ς La lm lc), (20, ι (lm : Int)), (21, ι i), (46, η (decide ((iget (iput L ic a ((iget L a) + 1)) a) > 1)))] 2 ?_
  refine RunR.nn ?_
  refine RunC.condp ((iget (iput L ic a ((iget L a) + 1)) a) > 1) (by kernel_rfl) (fun T => ?_) (fun T => ?_)
  ·refine RunC.sr ?_
   refine RunR.sl hU [] 1 1 [0, 4, 5, 6, 7, 8, 10, 19, 20, 21] [(0, pt fi), (4, ι 1), (5, .map (some d)), (6, ι f), (7, ι b), (8, η ms), (10, pt c), (19, ς La lm lc), (20, ι (lm : Int)), (21, ι i)] 1 ?_
   refine RunR.nn ?_
   refine RunC.ret ?_
   refine kseq_r ?_
   refine kblock_r ?_
   refine kseq_r ?_
   refine kloop_r ?_
   refine kblock_r ?_
   refine kseq_r ?_
   refine kret_r [ι 1] [2, 2, 2] (ζ fi wj mp Fs fc NA nk nc ns dd []) ⟨rfl, trivial⟩ (by kernel_rfl) rfl ⟨1, rfl, rfl, (by exact may_arg hst (ca_get m) (by exact .inr (.inr ((seen_gt hse hIM).1 ‹_›))))⟩
  refine RunC.ks ?_
  refine RunC.seq ?_
  refine RunC.regionU hU 13 [blk fi 51 [pt wj, .map (some mp), ς NA nk nc, η dd], blk c 31 [.string a, ς k g.length l, η j]] [2, 1] [11, 12] (bm 13 0) (by kernel_rfl) (by kernel_rfl) (by kernel_rfl) ?_
  refine RunU.sl hU 0 (bm 13 1) 48 (pt fi) ?_
  refine RunU.sl hU 1 (bm 13 3) 49 (pt fi) ?_
  refine RunU.sl hU 2 (bm 13 7) 50 (.pointer (some ⟨fi, 1, none⟩)) ?_
  refine RunU.rd 3 (bm 13 15) 51 (.load 48 (.tmp 50)) (.map (some mp)) [2, 1] (Reads.load_blk hU 0 fi (1) 51 [pt wj, .map (some mp), ς NA nk nc, η dd] (.map (some mp)) (by kernel_rfl) (by kernel_rfl) (by kernel_rfl)) ?_
  refine RunU.sl hU 4 (bm 13 31) 52 (pt c) ?_
  refine RunU.rd 5 (bm 13 63) 53 (.load 9 (.tmp 52)) (.string a) [2, 1] (Reads.load_blk hU 1 c (0) 31 [.string a, ς k g.length l, η j] (.string a) (by kernel_rfl) (by kernel_rfl) (by kernel_rfl)) ?_
  refine RunU.two (d1 := some 54) (o1 := .lookup 48 (.tmp 51) (.tmp 53) true) (d2 := some 11) (o2 := .alloc 63) 6 10 (bm 13 127) (bm 13 1087) [2, 1] [3, 2] (by kernel_rfl) (by kernel_rfl) (by kernel_rfl) (by kernel_rfl) (by kernel_rfl) ?_ ?_
  ·refine (Step.lookupFe hU 3 9 63 mp fc 3 40 Fs a (by kernel_rfl) (by kernel_rfl) (by kernel_rfl) (by kernel_rfl) (by kernel_rfl) (by kernel_rfl) (by assumption : FeOK Fs) (by kernel_rfl) (fun x v q t u Y X f0 Z u0 n0 p0 => ?_))
   refine orL ?_
   refine RunU.sl hU 7 (bm 13 255) 47 (.tuple #[.agg #[ι x, ι v, ς q u.length t], η (fhas Fs a)]) ?_
   refine RunU.sl hU 8 (bm 13 511) 55 (.agg #[ι x, ι v, ς q u.length t]) ?_
   refine RunU.sl hU 9 (bm 13 1023) 56 (η (fhas Fs a)) ?_
   refine RunU.on (some 11) (.alloc 63) 10 (bm 13 2047) [3, 2] (Step.al hU 3 40 (.agg #[ι 0, ι 0, ς0]) (fun H => ?_))
   refine orL ?_
   refine RunU.on none (.store 63 (.tmp 11) (.tmp 55)) 11 (bm 13 4095) [] (Step.store_blk hU 0 H 0 63 [ι 0, ι 0, ς0] (.agg #[ι x, ι v, ς q u.length t]) (by kernel_rfl) (by kernel_rfl) (by kernel_rfl) 3 rfl [ι x, ι v, ς q u.length t] (by kernel_rfl) rfl (by kernel_rfl) (by decide) ?_)
   refine orR ?_
   refine RunU.sl hU 12 (bm 13 8191) 12 (η (fhas Fs a)) ?_
   refine RunU.ev [0, 5, 6, 7, 8, 10, 12, 19, 20, 21] [(0, pt fi), (5, .map (some d)), (6, ι f), (7, ι b), (8, η ms), (10, pt c), (12, η (fhas Fs a)), (19, ς La lm lc), (20, ι (lm : Int)), (21, ι i)] ?_
   refine RunU.dn ?_
   refine kseq_n ?_
   refine RunC.block ?_
   refine RunC.sr ?_
   refine RunR.sl hU [] 1 1 [0, 5, 6, 7, 8, 10, 12, 19, 20, 21, 68] [(0, pt fi), (5, .map (some d)), (6, ι f), (7, ι b), (8, η ms), (10, pt c), (12, η (fhas Fs a)), (19, ς La lm lc), (20, ι (lm : Int)), (21, ι i), (68, .pointer (some ⟨c, 2, none⟩))] 1 ?_
   refine RunR.st (some 69) (.load 4 (.tmp 68)) (Step.load_blk hU 2 c (2) 31 [.string a, ς k g.length l, η j] (η j) (by kernel_rfl) (by kernel_rfl) (by kernel_rfl) (by kernel_rfl) ?_)
   refine RunR.sl hU [] 1 3 [0, 5, 6, 7, 8, 10, 12, 19, 20, 21, 70] [(0, pt fi), (5, .map (some d)), (6, ι f), (7, ι b), (8, η ms), (10, pt c), (12, η (fhas Fs a)), (19, ς La lm lc), (20, ι (lm : Int)), (21, ι i), (70, η j)] 1 ?_
   refine RunR.ev [0, 5, 6, 7, 8, 10, 12, 19, 20, 21, 70] [(0, pt fi), (5, .map (some d)), (6, ι f), (7, ι b), (8, η ms), (10, pt c), (12, η (fhas Fs a)), (19, ς La lm lc), (20, ι (lm : Int)), (21, ι i), (70, η j)] ?_
   by_cases A : j = true
   ·refine RunR.enveq [(0, pt fi), (5, .map (some d)), (6, ι f), (7, ι b), (8, η ms), (10, pt c), (12, η (fhas Fs a)), (19, ς La lm lc), (20, ι (lm : Int)), (21, ι i), (70, η true)] (by rw [A]; try rfl) ?_
    refine RunR.sl hU [] 3 6 [0, 5, 6, 7, 8, 10, 12, 19, 20, 21, 67] [(0, pt fi), (5, .map (some d)), (6, ι f), (7, ι b), (8, η ms), (10, pt c), (12, η (fhas Fs a)), (19, ς La lm lc), (20, ι (lm : Int)), (21, ι i), (67, η (fhas Fs a))] 3 ?_
    refine RunR.nn ?_
    refine RunC.cond (b := fhas Fs a) (by kernel_rfl) (fun G => ?_) (fun G => ?_)
    ·refine RunC.region ?_
     refine RunR.sil hU [1] 3 3 [0, 5, 6, 7, 8, 19, 20, 21] [(0, pt fi), (5, .map (some d)), (6, ι (f - 1)), (7, ι b), (8, η ms), (19, ς La lm lc), (20, ι (lm : Int)), (21, ι i)] ((True) ∧ (-9223372036854775808 ≤ (f - 1) ∧ (f - 1) < 9223372036854775808) ∧ (True) ∧ True) rfl (by kernel_rfl) ⟨trivial, (by omega), trivial, trivial⟩ ?_
     refine RunR.dn ?_
     refine kblock_n ?_
     refine kblock_n ?_
     refine kseq_n ?_
     refine RunC.region ?_
     refine RunR.sil hU [0] 2 2 [0, 5, 6, 7, 8, 19, 20, 21] [(0, pt fi), (5, .map (some d)), (6, ι (f - 1)), (7, ι b), (8, η ms), (19, ς La lm lc), (20, ι (lm : Int)), (21, ι (i + 1))] ((-9223372036854775808 ≤ (i + 1) ∧ (i + 1) < 9223372036854775808) ∧ (True) ∧ True) rfl (by kernel_rfl) ⟨(by omega), trivial, trivial⟩ ?_
     refine RunR.dn ?_
     refine kloop_n _ [0, 5, 6, 7, 8, 19, 20, 21] [1, 2, 2, 2, 2, 2] [(0, pt fi), (5, .map (some d)), (6, ι (f - 1)), (7, ι b), (8, η ms), (19, ς La lm lc), (20, ι (lm : Int)), (21, ι (i + 1))] (mpf d ((iput L ic a ((iget L a) + 1)).map imM) (iclock L ic a) :: ζ fi wj mp Fs fc NA nk nc ns dd [vw La (recV fcC ls), vws (rowsL .u8 (fcR ls))]) (by kernel_rfl) (by kernel_rfl) ?_ ⟨(i + 1), (f - 1), b, ms, (iput L ic a ((iget L a) + 1)), (iclock L ic a), (by omega), ‹_›, (by exact may_step hi hst (ca_get m) (fun h_ => by rcases h_ with h_ | h_ | h_; omega; omega; exact (by assumption : ¬ iget _ _ > 1) ((seen_gt hse hIM).2 h_)) (by rw [chas_fe]; simp only [*, reduceIte, Bool.false_eq_true]; try rfl)), (by exact hse.step hIM hi (ca_get m) ‹_›), (by exact hIM.put _ _), (by omega), (by omega), rfl, (by rfl), (by rfl)⟩
     show ((lm - (i + 1)).toNat : Nat) < ((lm - i).toNat : Nat)
     omega
    refine RunC.sr ?_
    refine RunR.sl hU [] 1 1 [0, 5, 6, 7, 8, 10, 12, 19, 20, 21, 76] [(0, pt fi), (5, .map (some d)), (6, ι f), (7, ι b), (8, η ms), (10, pt c), (12, η (fhas Fs a)), (19, ς La lm lc), (20, ι (lm : Int)), (21, ι i), (76, .pointer (some ⟨c, 2, none⟩))] 1 ?_
    refine RunR.ev [0, 5, 6, 7, 8, 10, 12, 19, 20, 21, 76] [(0, pt fi), (5, .map (some d)), (6, ι f), (7, ι b), (8, η ms), (10, pt c), (12, η (fhas Fs a)), (19, ς La lm lc), (20, ι (lm : Int)), (21, ι i), (76, .pointer (some ⟨c, 2, none⟩))] ?_
    have J : fhas Fs a = false := by exact G
    refine RunR.enveq [(0, pt fi), (5, .map (some d)), (6, ι f), (7, ι b), (8, η ms), (10, pt c), (12, η false), (19, ς La lm lc), (20, ι (lm : Int)), (21, ι i), (76, .pointer (some ⟨c, 2, none⟩))] (by rw [J]; try rfl) ?_
    refine RunR.st (some 77) (.load 4 (.tmp 76)) (Step.load_blk hU 2 c (2) 31 [.string a, ς k g.length l, η j] (η j) (by kernel_rfl) (by kernel_rfl) (by kernel_rfl) (by kernel_rfl) ?_)
    refine RunR.sl hU [] 1 3 [0, 5, 6, 7, 8, 10, 12, 19, 20, 21, 75] [(0, pt fi), (5, .map (some d)), (6, ι f), (7, ι b), (8, η ms), (10, pt c), (12, η false), (19, ς La lm lc), (20, ι (lm : Int)), (21, ι i), (75, η j)] 1 ?_
    refine RunR.ev [0, 5, 6, 7, 8, 10, 12, 19, 20, 21, 75] [(0, pt fi), (5, .map (some d)), (6, ι f), (7, ι b), (8, η ms), (10, pt c), (12, η false), (19, ς La lm lc), (20, ι (lm : Int)), (21, ι i), (75, η j)] ?_
    have K : j = true := by exact A
    refine RunR.enveq [(0, pt fi), (5, .map (some d)), (6, ι f), (7, ι b), (8, η ms), (10, pt c), (12, η false), (19, ς La lm lc), (20, ι (lm : Int)), (21, ι i), (75, η true)] (by rw [K]; try rfl) ?_
    refine RunR.nn ?_
    refine RunC.cond (b := true) (by kernel_rfl) (fun _ => ?_) (fun h => by cases h)
    refine RunC.region ?_
    refine RunR.sl hU [] 1 1 [0, 5, 6, 7, 8, 19, 20, 21] [(0, pt fi), (5, .map (some d)), (6, ι f), (7, ι b), (8, η true), (19, ς La lm lc), (20, ι (lm : Int)), (21, ι i)] 1 ?_
    refine RunR.dn ?_
    refine kblock_n ?_
    refine kblock_n ?_
    refine kseq_n ?_
    refine RunC.region ?_
    refine RunR.sil hU [0] 2 2 [0, 5, 6, 7, 8, 19, 20, 21] [(0, pt fi), (5, .map (some d)), (6, ι f), (7, ι b), (8, η true), (19, ς La lm lc), (20, ι (lm : Int)), (21, ι (i + 1))] ((-9223372036854775808 ≤ (i + 1) ∧ (i + 1) < 9223372036854775808) ∧ (True) ∧ True) rfl (by kernel_rfl) ⟨(by omega), trivial, trivial⟩ ?_
    refine RunR.dn ?_
    refine kloop_n _ [0, 5, 6, 7, 8, 19, 20, 21] [1, 2, 2, 2, 2, 2] [(0, pt fi), (5, .map (some d)), (6, ι f), (7, ι b), (8, η true), (19, ς La lm lc), (20, ι (lm : Int)), (21, ι (i + 1))] (mpf d ((iput L ic a ((iget L a) + 1)).map imM) (iclock L ic a) :: ζ fi wj mp Fs fc NA nk nc ns dd [vw La (recV fcC ls), vws (rowsL .u8 (fcR ls))]) (by kernel_rfl) (by kernel_rfl) ?_ ⟨(i + 1), f, b, true, (iput L ic a ((iget L a) + 1)), (iclock L ic a), (by omega), ‹_›, (by exact may_step hi hst (ca_get m) (fun h_ => by rcases h_ with h_ | h_ | h_; omega; omega; exact (by assumption : ¬ iget _ _ > 1) ((seen_gt hse hIM).2 h_)) (by rw [chas_fe]; simp only [*, reduceIte, Bool.false_eq_true]; try rfl)), (by exact hse.step hIM hi (ca_get m) ‹_›), (by exact hIM.put _ _), (by omega), (by omega), rfl, (by rfl), (by rfl)⟩
    show ((lm - (i + 1)).toNat : Nat) < ((lm - i).toNat : Nat)
    omega
   have A := Bool.eq_false_iff.2 A
   refine RunR.enveq [(0, pt fi), (5, .map (some d)), (6, ι f), (7, ι b), (8, η ms), (10, pt c), (12, η (fhas Fs a)), (19, ς La lm lc), (20, ι (lm : Int)), (21, ι i), (70, η false)] (by rw [A]; try rfl) ?_
   refine RunR.sl hU [] 3 6 [0, 5, 6, 7, 8, 10, 12, 19, 20, 21, 67] [(0, pt fi), (5, .map (some d)), (6, ι f), (7, ι b), (8, η ms), (10, pt c), (12, η (fhas Fs a)), (19, ς La lm lc), (20, ι (lm : Int)), (21, ι i), (67, η false)] 2 ?_
   refine RunR.nn ?_
   refine RunC.cond (b := false) (by kernel_rfl) (fun h => by cases h) (fun _ => ?_)
   refine RunC.sr ?_
   refine RunR.sl hU [] 1 1 [0, 5, 6, 7, 8, 10, 12, 19, 20, 21, 76] [(0, pt fi), (5, .map (some d)), (6, ι f), (7, ι b), (8, η ms), (10, pt c), (12, η (fhas Fs a)), (19, ς La lm lc), (20, ι (lm : Int)), (21, ι i), (76, .pointer (some ⟨c, 2, none⟩))] 1 ?_
   refine RunR.st (some 77) (.load 4 (.tmp 76)) (Step.load_blk hU 2 c (2) 31 [.string a, ς k g.length l, η j] (η j) (by kernel_rfl) (by kernel_rfl) (by kernel_rfl) (by kernel_rfl) ?_)
   refine RunR.sl hU [] 1 3 [0, 5, 6, 7, 8, 10, 12, 19, 20, 21, 75] [(0, pt fi), (5, .map (some d)), (6, ι f), (7, ι b), (8, η ms), (10, pt c), (12, η (fhas Fs a)), (19, ς La lm lc), (20, ι (lm : Int)), (21, ι i), (75, η j)] 1 ?_
   refine RunR.ev [0, 5, 6, 7, 8, 10, 12, 19, 20, 21, 75] [(0, pt fi), (5, .map (some d)), (6, ι f), (7, ι b), (8, η ms), (10, pt c), (12, η (fhas Fs a)), (19, ς La lm lc), (20, ι (lm : Int)), (21, ι i), (75, η j)] ?_
   have M : j = false := by exact A
   refine RunR.enveq [(0, pt fi), (5, .map (some d)), (6, ι f), (7, ι b), (8, η ms), (10, pt c), (12, η (fhas Fs a)), (19, ς La lm lc), (20, ι (lm : Int)), (21, ι i), (75, η false)] (by rw [M]; try rfl) ?_
   refine RunR.nn ?_
   refine RunC.cond (b := false) (by kernel_rfl) (fun h => by cases h) (fun _ => ?_)
   refine RunC.sr ?_
   refine RunR.sl hU [] 2 2 [0, 5, 6, 7, 8, 12, 19, 20, 21, 57, 58] [(0, pt fi), (5, .map (some d)), (6, ι f), (7, ι b), (8, η ms), (12, η (fhas Fs a)), (19, ς La lm lc), (20, ι (lm : Int)), (21, ι i), (57, ι b), (58, .pointer (some ⟨c, 1, none⟩))] 2 ?_
   refine RunR.st (some 59) (.load 22 (.tmp 58)) (Step.load_blk hU 2 c (1) 31 [.string a, ς k g.length l, η j] (ς k g.length l) (by kernel_rfl) (by kernel_rfl) (by kernel_rfl) (by kernel_rfl) ?_)
   refine RunR.sl hU [] 1 4 [0, 5, 6, 7, 8, 12, 19, 20, 21, 57, 60] [(0, pt fi), (5, .map (some d)), (6, ι f), (7, ι b), (8, η ms), (12, η (fhas Fs a)), (19, ς La lm lc), (20, ι (lm : Int)), (21, ι i), (57, ι b), (60, ι (g.length : Int))] 1 ?_
   refine RunR.st (some 61) (.call { callee := .value (.func 33), args := #[.tmp 60], argTypes := #[3] }) (Step.cn 33 [ι (g.length : Int)] [] (blk H 63 [ι x, ι v, ς q u.length t] :: mpf d ((iput L ic a ((iget L a) + 1)).map imM) (iclock L ic a) :: blk c 31 [.string a, ς k g.length l, η j] :: ζ fi wj mp Fs fc NA nk nc ns dd [vw La (recV fcC ls), vws (rowsL .u8 (fcR ls))]) (fl_need_spec (g.length : Int) (by omega)) [] ?_)
   rintro _ _ ⟨rfl, rfl, b0⟩
   refine RunR.sil hU [5] 2 7 [0, 5, 6, 7, 8, 12, 19, 20, 21] [(0, pt fi), (5, .map (some d)), (6, ι f), (7, ι (b + (need (g.length : Int)))), (8, η ms), (12, η (fhas Fs a)), (19, ς La lm lc), (20, ι (lm : Int)), (21, ι i)] ((-9223372036854775808 ≤ (b + (need (g.length : Int))) ∧ (b + (need (g.length : Int))) < 9223372036854775808) ∧ (True) ∧ True) rfl (by kernel_rfl) ⟨(by omega), trivial, trivial⟩ ?_
   refine RunR.nx ?_
   refine RunR.sl hU [] 2 2 [0, 5, 6, 7, 8, 19, 20, 21, 64] [(0, pt fi), (5, .map (some d)), (6, ι f), (7, ι (b + (need (g.length : Int)))), (8, η ms), (19, ς La lm lc), (20, ι (lm : Int)), (21, ι i), (64, η (!fhas Fs a))] 2 ?_
   refine RunR.nn ?_
   refine RunC.cond (b := !fhas Fs a) (by kernel_rfl) (fun E => ?_) (fun E => ?_)
   ·have s0 : fhas Fs a = false := by simpa using E
    refine RunC.region ?_
    refine RunR.sil hU [1] 3 3 [0, 5, 6, 7, 8, 19, 20, 21] [(0, pt fi), (5, .map (some d)), (6, ι (f + 1)), (7, ι (b + (need (g.length : Int)))), (8, η ms), (19, ς La lm lc), (20, ι (lm : Int)), (21, ι i)] ((True) ∧ (-9223372036854775808 ≤ (f + 1) ∧ (f + 1) < 9223372036854775808) ∧ (True) ∧ True) rfl (by kernel_rfl) ⟨trivial, (by omega), trivial, trivial⟩ ?_
    refine RunR.dn ?_
    refine kblock_n ?_
    refine kblock_n ?_
    refine kseq_n ?_
    refine RunC.region ?_
    refine RunR.sil hU [0] 2 2 [0, 5, 6, 7, 8, 19, 20, 21] [(0, pt fi), (5, .map (some d)), (6, ι (f + 1)), (7, ι (b + (need (g.length : Int)))), (8, η ms), (19, ς La lm lc), (20, ι (lm : Int)), (21, ι (i + 1))] ((-9223372036854775808 ≤ (i + 1) ∧ (i + 1) < 9223372036854775808) ∧ (True) ∧ True) rfl (by kernel_rfl) ⟨(by omega), trivial, trivial⟩ ?_
    refine RunR.dn ?_
    refine kloop_n _ [0, 5, 6, 7, 8, 19, 20, 21] [1, 2, 2, 2, 2, 2] [(0, pt fi), (5, .map (some d)), (6, ι (f + 1)), (7, ι (b + (need (g.length : Int)))), (8, η ms), (19, ς La lm lc), (20, ι (lm : Int)), (21, ι (i + 1))] (mpf d ((iput L ic a ((iget L a) + 1)).map imM) (iclock L ic a) :: ζ fi wj mp Fs fc NA nk nc ns dd [vw La (recV fcC ls), vws (rowsL .u8 (fcR ls))]) (by kernel_rfl) (by kernel_rfl) ?_ ⟨(i + 1), (f + 1), (b + (need (g.length : Int))), ms, (iput L ic a ((iget L a) + 1)), (iclock L ic a), (by omega), ‹_›, (by exact may_step hi hst (ca_get m) (fun h_ => by rcases h_ with h_ | h_ | h_; omega; omega; exact (by assumption : ¬ iget _ _ > 1) ((seen_gt hse hIM).2 h_)) (by rw [chas_fe]; simp only [*, reduceIte, Bool.false_eq_true]; try rfl)), (by exact hse.step hIM hi (ca_get m) ‹_›), (by exact hIM.put _ _), (by omega), (by omega), rfl, (by rfl), (by rfl)⟩
    show ((lm - (i + 1)).toNat : Nat) < ((lm - i).toNat : Nat)
    omega
   have o0 : fhas Fs a = true := by simpa using E
   refine RunC.skip ?_
   refine kblock_n ?_
   refine kblock_n ?_
   refine kseq_n ?_
   refine RunC.region ?_
   refine RunR.sil hU [0] 2 2 [0, 5, 6, 7, 8, 19, 20, 21] [(0, pt fi), (5, .map (some d)), (6, ι f), (7, ι (b + (need (g.length : Int)))), (8, η ms), (19, ς La lm lc), (20, ι (lm : Int)), (21, ι (i + 1))] ((-9223372036854775808 ≤ (i + 1) ∧ (i + 1) < 9223372036854775808) ∧ (True) ∧ True) rfl (by kernel_rfl) ⟨(by omega), trivial, trivial⟩ ?_
   refine RunR.dn ?_
   refine kloop_n _ [0, 5, 6, 7, 8, 19, 20, 21] [1, 2, 2, 2, 2, 2] [(0, pt fi), (5, .map (some d)), (6, ι f), (7, ι (b + (need (g.length : Int)))), (8, η ms), (19, ς La lm lc), (20, ι (lm : Int)), (21, ι (i + 1))] (mpf d ((iput L ic a ((iget L a) + 1)).map imM) (iclock L ic a) :: ζ fi wj mp Fs fc NA nk nc ns dd [vw La (recV fcC ls), vws (rowsL .u8 (fcR ls))]) (by kernel_rfl) (by kernel_rfl) ?_ ⟨(i + 1), f, (b + (need (g.length : Int))), ms, (iput L ic a ((iget L a) + 1)), (iclock L ic a), (by omega), ‹_›, (by exact may_step hi hst (ca_get m) (fun h_ => by rcases h_ with h_ | h_ | h_; omega; omega; exact (by assumption : ¬ iget _ _ > 1) ((seen_gt hse hIM).2 h_)) (by rw [chas_fe]; simp only [*, reduceIte, Bool.false_eq_true]; try rfl)), (by exact hse.step hIM hi (ca_get m) ‹_›), (by exact hIM.put _ _), (by omega), (by omega), rfl, (by rfl), (by rfl)⟩
   show ((lm - (i + 1)).toNat : Nat) < ((lm - i).toNat : Nat)
   omega
  refine (Step.al hU 3 40 (.agg #[ι 0, ι 0, ς0]) (fun N => ?_))
  refine orL ?_
  refine RunU.on (some 54) (.lookup 48 (.tmp 51) (.tmp 53) true) 6 (bm 13 1151) [3, 2] (Step.lookupFe hU 4 9 63 mp fc 3 40 Fs a (by kernel_rfl) (by kernel_rfl) (by kernel_rfl) (by kernel_rfl) (by kernel_rfl) (by kernel_rfl) (by assumption : FeOK Fs) (by kernel_rfl) (fun n s y o z x0 h0 v0 a0 c0 i0 j0 => ?_))
  refine orL ?_
  refine RunU.sl hU 7 (bm 13 1279) 47 (.tuple #[.agg #[ι n, ι s, ς y z.length o], η (fhas Fs a)]) ?_
  refine RunU.sl hU 8 (bm 13 1535) 55 (.agg #[ι n, ι s, ς y z.length o]) ?_
  refine RunU.sl hU 9 (bm 13 2047) 56 (η (fhas Fs a)) ?_
  refine RunU.on none (.store 63 (.tmp 11) (.tmp 55)) 11 (bm 13 4095) [] (Step.store_blk hU 0 N 0 63 [ι 0, ι 0, ς0] (.agg #[ι n, ι s, ς y z.length o]) (by kernel_rfl) (by kernel_rfl) (by kernel_rfl) 3 rfl [ι n, ι s, ς y z.length o] (by kernel_rfl) rfl (by kernel_rfl) (by decide) ?_)
  refine orR ?_
  refine RunU.sl hU 12 (bm 13 8191) 12 (η (fhas Fs a)) ?_
  refine RunU.ev [0, 5, 6, 7, 8, 10, 12, 19, 20, 21] [(0, pt fi), (5, .map (some d)), (6, ι f), (7, ι b), (8, η ms), (10, pt c), (12, η (fhas Fs a)), (19, ς La lm lc), (20, ι (lm : Int)), (21, ι i)] ?_
  refine RunU.dn ?_
  refine kseq_n ?_
  refine RunC.block ?_
  refine RunC.sr ?_
  refine RunR.sl hU [] 1 1 [0, 5, 6, 7, 8, 10, 12, 19, 20, 21, 68] [(0, pt fi), (5, .map (some d)), (6, ι f), (7, ι b), (8, η ms), (10, pt c), (12, η (fhas Fs a)), (19, ς La lm lc), (20, ι (lm : Int)), (21, ι i), (68, .pointer (some ⟨c, 2, none⟩))] 1 ?_
  refine RunR.st (some 69) (.load 4 (.tmp 68)) (Step.load_blk hU 2 c (2) 31 [.string a, ς k g.length l, η j] (η j) (by kernel_rfl) (by kernel_rfl) (by kernel_rfl) (by kernel_rfl) ?_)
  refine RunR.sl hU [] 1 3 [0, 5, 6, 7, 8, 10, 12, 19, 20, 21, 70] [(0, pt fi), (5, .map (some d)), (6, ι f), (7, ι b), (8, η ms), (10, pt c), (12, η (fhas Fs a)), (19, ς La lm lc), (20, ι (lm : Int)), (21, ι i), (70, η j)] 1 ?_
  refine RunR.ev [0, 5, 6, 7, 8, 10, 12, 19, 20, 21, 70] [(0, pt fi), (5, .map (some d)), (6, ι f), (7, ι b), (8, η ms), (10, pt c), (12, η (fhas Fs a)), (19, ς La lm lc), (20, ι (lm : Int)), (21, ι i), (70, η j)] ?_
  by_cases B : j = true
  ·refine RunR.enveq [(0, pt fi), (5, .map (some d)), (6, ι f), (7, ι b), (8, η ms), (10, pt c), (12, η (fhas Fs a)), (19, ς La lm lc), (20, ι (lm : Int)), (21, ι i), (70, η true)] (by rw [B]; try rfl) ?_
   refine RunR.sl hU [] 3 6 [0, 5, 6, 7, 8, 10, 12, 19, 20, 21, 67] [(0, pt fi), (5, .map (some d)), (6, ι f), (7, ι b), (8, η ms), (10, pt c), (12, η (fhas Fs a)), (19, ς La lm lc), (20, ι (lm : Int)), (21, ι i), (67, η (fhas Fs a))] 3 ?_
   refine RunR.nn ?_
   refine RunC.cond (b := fhas Fs a) (by kernel_rfl) (fun P => ?_) (fun P => ?_)
   ·refine RunC.region ?_
    refine RunR.sil hU [1] 3 3 [0, 5, 6, 7, 8, 19, 20, 21] [(0, pt fi), (5, .map (some d)), (6, ι (f - 1)), (7, ι b), (8, η ms), (19, ς La lm lc), (20, ι (lm : Int)), (21, ι i)] ((True) ∧ (-9223372036854775808 ≤ (f - 1) ∧ (f - 1) < 9223372036854775808) ∧ (True) ∧ True) rfl (by kernel_rfl) ⟨trivial, (by omega), trivial, trivial⟩ ?_
    refine RunR.dn ?_
    refine kblock_n ?_
    refine kblock_n ?_
    refine kseq_n ?_
    refine RunC.region ?_
    refine RunR.sil hU [0] 2 2 [0, 5, 6, 7, 8, 19, 20, 21] [(0, pt fi), (5, .map (some d)), (6, ι (f - 1)), (7, ι b), (8, η ms), (19, ς La lm lc), (20, ι (lm : Int)), (21, ι (i + 1))] ((-9223372036854775808 ≤ (i + 1) ∧ (i + 1) < 9223372036854775808) ∧ (True) ∧ True) rfl (by kernel_rfl) ⟨(by omega), trivial, trivial⟩ ?_
    refine RunR.dn ?_
    refine kloop_n _ [0, 5, 6, 7, 8, 19, 20, 21] [1, 2, 2, 2, 2, 2] [(0, pt fi), (5, .map (some d)), (6, ι (f - 1)), (7, ι b), (8, η ms), (19, ς La lm lc), (20, ι (lm : Int)), (21, ι (i + 1))] (mpf d ((iput L ic a ((iget L a) + 1)).map imM) (iclock L ic a) :: ζ fi wj mp Fs fc NA nk nc ns dd [vw La (recV fcC ls), vws (rowsL .u8 (fcR ls))]) (by kernel_rfl) (by kernel_rfl) ?_ ⟨(i + 1), (f - 1), b, ms, (iput L ic a ((iget L a) + 1)), (iclock L ic a), (by omega), ‹_›, (by exact may_step hi hst (ca_get m) (fun h_ => by rcases h_ with h_ | h_ | h_; omega; omega; exact (by assumption : ¬ iget _ _ > 1) ((seen_gt hse hIM).2 h_)) (by rw [chas_fe]; simp only [*, reduceIte, Bool.false_eq_true]; try rfl)), (by exact hse.step hIM hi (ca_get m) ‹_›), (by exact hIM.put _ _), (by omega), (by omega), rfl, (by rfl), (by rfl)⟩
    show ((lm - (i + 1)).toNat : Nat) < ((lm - i).toNat : Nat)
    omega
   refine RunC.sr ?_
   refine RunR.sl hU [] 1 1 [0, 5, 6, 7, 8, 10, 12, 19, 20, 21, 76] [(0, pt fi), (5, .map (some d)), (6, ι f), (7, ι b), (8, η ms), (10, pt c), (12, η (fhas Fs a)), (19, ς La lm lc), (20, ι (lm : Int)), (21, ι i), (76, .pointer (some ⟨c, 2, none⟩))] 1 ?_
   refine RunR.ev [0, 5, 6, 7, 8, 10, 12, 19, 20, 21, 76] [(0, pt fi), (5, .map (some d)), (6, ι f), (7, ι b), (8, η ms), (10, pt c), (12, η (fhas Fs a)), (19, ς La lm lc), (20, ι (lm : Int)), (21, ι i), (76, .pointer (some ⟨c, 2, none⟩))] ?_
   have I : fhas Fs a = false := by exact P
   refine RunR.enveq [(0, pt fi), (5, .map (some d)), (6, ι f), (7, ι b), (8, η ms), (10, pt c), (12, η false), (19, ς La lm lc), (20, ι (lm : Int)), (21, ι i), (76, .pointer (some ⟨c, 2, none⟩))] (by rw [I]; try rfl) ?_
   refine RunR.st (some 77) (.load 4 (.tmp 76)) (Step.load_blk hU 2 c (2) 31 [.string a, ς k g.length l, η j] (η j) (by kernel_rfl) (by kernel_rfl) (by kernel_rfl) (by kernel_rfl) ?_)
   refine RunR.sl hU [] 1 3 [0, 5, 6, 7, 8, 10, 12, 19, 20, 21, 75] [(0, pt fi), (5, .map (some d)), (6, ι f), (7, ι b), (8, η ms), (10, pt c), (12, η false), (19, ς La lm lc), (20, ι (lm : Int)), (21, ι i), (75, η j)] 1 ?_
   refine RunR.ev [0, 5, 6, 7, 8, 10, 12, 19, 20, 21, 75] [(0, pt fi), (5, .map (some d)), (6, ι f), (7, ι b), (8, η ms), (10, pt c), (12, η false), (19, ς La lm lc), (20, ι (lm : Int)), (21, ι i), (75, η j)] ?_
   have O : j = true := by exact B
   refine RunR.enveq [(0, pt fi), (5, .map (some d)), (6, ι f), (7, ι b), (8, η ms), (10, pt c), (12, η false), (19, ς La lm lc), (20, ι (lm : Int)), (21, ι i), (75, η true)] (by rw [O]; try rfl) ?_
   refine RunR.nn ?_
   refine RunC.cond (b := true) (by kernel_rfl) (fun _ => ?_) (fun h => by cases h)
   refine RunC.region ?_
   refine RunR.sl hU [] 1 1 [0, 5, 6, 7, 8, 19, 20, 21] [(0, pt fi), (5, .map (some d)), (6, ι f), (7, ι b), (8, η true), (19, ς La lm lc), (20, ι (lm : Int)), (21, ι i)] 1 ?_
   refine RunR.dn ?_
   refine kblock_n ?_
   refine kblock_n ?_
   refine kseq_n ?_
   refine RunC.region ?_
   refine RunR.sil hU [0] 2 2 [0, 5, 6, 7, 8, 19, 20, 21] [(0, pt fi), (5, .map (some d)), (6, ι f), (7, ι b), (8, η true), (19, ς La lm lc), (20, ι (lm : Int)), (21, ι (i + 1))] ((-9223372036854775808 ≤ (i + 1) ∧ (i + 1) < 9223372036854775808) ∧ (True) ∧ True) rfl (by kernel_rfl) ⟨(by omega), trivial, trivial⟩ ?_
   refine RunR.dn ?_
   refine kloop_n _ [0, 5, 6, 7, 8, 19, 20, 21] [1, 2, 2, 2, 2, 2] [(0, pt fi), (5, .map (some d)), (6, ι f), (7, ι b), (8, η true), (19, ς La lm lc), (20, ι (lm : Int)), (21, ι (i + 1))] (mpf d ((iput L ic a ((iget L a) + 1)).map imM) (iclock L ic a) :: ζ fi wj mp Fs fc NA nk nc ns dd [vw La (recV fcC ls), vws (rowsL .u8 (fcR ls))]) (by kernel_rfl) (by kernel_rfl) ?_ ⟨(i + 1), f, b, true, (iput L ic a ((iget L a) + 1)), (iclock L ic a), (by omega), ‹_›, (by exact may_step hi hst (ca_get m) (fun h_ => by rcases h_ with h_ | h_ | h_; omega; omega; exact (by assumption : ¬ iget _ _ > 1) ((seen_gt hse hIM).2 h_)) (by rw [chas_fe]; simp only [*, reduceIte, Bool.false_eq_true]; try rfl)), (by exact hse.step hIM hi (ca_get m) ‹_›), (by exact hIM.put _ _), (by omega), (by omega), rfl, (by rfl), (by rfl)⟩
   show ((lm - (i + 1)).toNat : Nat) < ((lm - i).toNat : Nat)
   omega
  have B := Bool.eq_false_iff.2 B
  refine RunR.enveq [(0, pt fi), (5, .map (some d)), (6, ι f), (7, ι b), (8, η ms), (10, pt c), (12, η (fhas Fs a)), (19, ς La lm lc), (20, ι (lm : Int)), (21, ι i), (70, η false)] (by rw [B]; try rfl) ?_
  refine RunR.sl hU [] 3 6 [0, 5, 6, 7, 8, 10, 12, 19, 20, 21, 67] [(0, pt fi), (5, .map (some d)), (6, ι f), (7, ι b), (8, η ms), (10, pt c), (12, η (fhas Fs a)), (19, ς La lm lc), (20, ι (lm : Int)), (21, ι i), (67, η false)] 2 ?_
  refine RunR.nn ?_
  refine RunC.cond (b := false) (by kernel_rfl) (fun h => by cases h) (fun _ => ?_)
  refine RunC.sr ?_
  refine RunR.sl hU [] 1 1 [0, 5, 6, 7, 8, 10, 12, 19, 20, 21, 76] [(0, pt fi), (5, .map (some d)), (6, ι f), (7, ι b), (8, η ms), (10, pt c), (12, η (fhas Fs a)), (19, ς La lm lc), (20, ι (lm : Int)), (21, ι i), (76, .pointer (some ⟨c, 2, none⟩))] 1 ?_
  refine RunR.st (some 77) (.load 4 (.tmp 76)) (Step.load_blk hU 2 c (2) 31 [.string a, ς k g.length l, η j] (η j) (by kernel_rfl) (by kernel_rfl) (by kernel_rfl) (by kernel_rfl) ?_)
  refine RunR.sl hU [] 1 3 [0, 5, 6, 7, 8, 10, 12, 19, 20, 21, 75] [(0, pt fi), (5, .map (some d)), (6, ι f), (7, ι b), (8, η ms), (10, pt c), (12, η (fhas Fs a)), (19, ς La lm lc), (20, ι (lm : Int)), (21, ι i), (75, η j)] 1 ?_
  refine RunR.ev [0, 5, 6, 7, 8, 10, 12, 19, 20, 21, 75] [(0, pt fi), (5, .map (some d)), (6, ι f), (7, ι b), (8, η ms), (10, pt c), (12, η (fhas Fs a)), (19, ς La lm lc), (20, ι (lm : Int)), (21, ι i), (75, η j)] ?_
  have F : j = false := by exact B
  refine RunR.enveq [(0, pt fi), (5, .map (some d)), (6, ι f), (7, ι b), (8, η ms), (10, pt c), (12, η (fhas Fs a)), (19, ς La lm lc), (20, ι (lm : Int)), (21, ι i), (75, η false)] (by rw [F]; try rfl) ?_
  refine RunR.nn ?_
  refine RunC.cond (b := false) (by kernel_rfl) (fun h => by cases h) (fun _ => ?_)
  refine RunC.sr ?_
  refine RunR.sl hU [] 2 2 [0, 5, 6, 7, 8, 12, 19, 20, 21, 57, 58] [(0, pt fi), (5, .map (some d)), (6, ι f), (7, ι b), (8, η ms), (12, η (fhas Fs a)), (19, ς La lm lc), (20, ι (lm : Int)), (21, ι i), (57, ι b), (58, .pointer (some ⟨c, 1, none⟩))] 2 ?_
  refine RunR.st (some 59) (.load 22 (.tmp 58)) (Step.load_blk hU 2 c (1) 31 [.string a, ς k g.length l, η j] (ς k g.length l) (by kernel_rfl) (by kernel_rfl) (by kernel_rfl) (by kernel_rfl) ?_)
  refine RunR.sl hU [] 1 4 [0, 5, 6, 7, 8, 12, 19, 20, 21, 57, 60] [(0, pt fi), (5, .map (some d)), (6, ι f), (7, ι b), (8, η ms), (12, η (fhas Fs a)), (19, ς La lm lc), (20, ι (lm : Int)), (21, ι i), (57, ι b), (60, ι (g.length : Int))] 1 ?_
  refine RunR.st (some 61) (.call { callee := .value (.func 33), args := #[.tmp 60], argTypes := #[3] }) (Step.cn 33 [ι (g.length : Int)] [] (blk N 63 [ι n, ι s, ς y z.length o] :: mpf d ((iput L ic a ((iget L a) + 1)).map imM) (iclock L ic a) :: blk c 31 [.string a, ς k g.length l, η j] :: ζ fi wj mp Fs fc NA nk nc ns dd [vw La (recV fcC ls), vws (rowsL .u8 (fcR ls))]) (fl_need_spec (g.length : Int) (by omega)) [] ?_)
  rintro _ _ ⟨rfl, rfl, e0⟩
  refine RunR.sil hU [5] 2 7 [0, 5, 6, 7, 8, 12, 19, 20, 21] [(0, pt fi), (5, .map (some d)), (6, ι f), (7, ι (b + (need (g.length : Int)))), (8, η ms), (12, η (fhas Fs a)), (19, ς La lm lc), (20, ι (lm : Int)), (21, ι i)] ((-9223372036854775808 ≤ (b + (need (g.length : Int))) ∧ (b + (need (g.length : Int))) < 9223372036854775808) ∧ (True) ∧ True) rfl (by kernel_rfl) ⟨(by omega), trivial, trivial⟩ ?_
  refine RunR.nx ?_
  refine RunR.sl hU [] 2 2 [0, 5, 6, 7, 8, 19, 20, 21, 64] [(0, pt fi), (5, .map (some d)), (6, ι f), (7, ι (b + (need (g.length : Int)))), (8, η ms), (19, ς La lm lc), (20, ι (lm : Int)), (21, ι i), (64, η (!fhas Fs a))] 2 ?_
  refine RunR.nn ?_
  refine RunC.cond (b := !fhas Fs a) (by kernel_rfl) (fun C => ?_) (fun C => ?_)
  ·have m0 : fhas Fs a = false := by simpa using C
   refine RunC.region ?_
   refine RunR.sil hU [1] 3 3 [0, 5, 6, 7, 8, 19, 20, 21] [(0, pt fi), (5, .map (some d)), (6, ι (f + 1)), (7, ι (b + (need (g.length : Int)))), (8, η ms), (19, ς La lm lc), (20, ι (lm : Int)), (21, ι i)] ((True) ∧ (-9223372036854775808 ≤ (f + 1) ∧ (f + 1) < 9223372036854775808) ∧ (True) ∧ True) rfl (by kernel_rfl) ⟨trivial, (by omega), trivial, trivial⟩ ?_
   refine RunR.dn ?_
   refine kblock_n ?_
   refine kblock_n ?_
   refine kseq_n ?_
   refine RunC.region ?_
   refine RunR.sil hU [0] 2 2 [0, 5, 6, 7, 8, 19, 20, 21] [(0, pt fi), (5, .map (some d)), (6, ι (f + 1)), (7, ι (b + (need (g.length : Int)))), (8, η ms), (19, ς La lm lc), (20, ι (lm : Int)), (21, ι (i + 1))] ((-9223372036854775808 ≤ (i + 1) ∧ (i + 1) < 9223372036854775808) ∧ (True) ∧ True) rfl (by kernel_rfl) ⟨(by omega), trivial, trivial⟩ ?_
   refine RunR.dn ?_
   refine kloop_n _ [0, 5, 6, 7, 8, 19, 20, 21] [1, 2, 2, 2, 2, 2] [(0, pt fi), (5, .map (some d)), (6, ι (f + 1)), (7, ι (b + (need (g.length : Int)))), (8, η ms), (19, ς La lm lc), (20, ι (lm : Int)), (21, ι (i + 1))] (mpf d ((iput L ic a ((iget L a) + 1)).map imM) (iclock L ic a) :: ζ fi wj mp Fs fc NA nk nc ns dd [vw La (recV fcC ls), vws (rowsL .u8 (fcR ls))]) (by kernel_rfl) (by kernel_rfl) ?_ ⟨(i + 1), (f + 1), (b + (need (g.length : Int))), ms, (iput L ic a ((iget L a) + 1)), (iclock L ic a), (by omega), ‹_›, (by exact may_step hi hst (ca_get m) (fun h_ => by rcases h_ with h_ | h_ | h_; omega; omega; exact (by assumption : ¬ iget _ _ > 1) ((seen_gt hse hIM).2 h_)) (by rw [chas_fe]; simp only [*, reduceIte, Bool.false_eq_true]; try rfl)), (by exact hse.step hIM hi (ca_get m) ‹_›), (by exact hIM.put _ _), (by omega), (by omega), rfl, (by rfl), (by rfl)⟩
   show ((lm - (i + 1)).toNat : Nat) < ((lm - i).toNat : Nat)
   omega
  have q0 : fhas Fs a = true := by simpa using C
  refine RunC.skip ?_
  refine kblock_n ?_
  refine kblock_n ?_
  refine kseq_n ?_
  refine RunC.region ?_
  refine RunR.sil hU [0] 2 2 [0, 5, 6, 7, 8, 19, 20, 21] [(0, pt fi), (5, .map (some d)), (6, ι f), (7, ι (b + (need (g.length : Int)))), (8, η ms), (19, ς La lm lc), (20, ι (lm : Int)), (21, ι (i + 1))] ((-9223372036854775808 ≤ (i + 1) ∧ (i + 1) < 9223372036854775808) ∧ (True) ∧ True) rfl (by kernel_rfl) ⟨(by omega), trivial, trivial⟩ ?_
  refine RunR.dn ?_
  refine kloop_n _ [0, 5, 6, 7, 8, 19, 20, 21] [1, 2, 2, 2, 2, 2] [(0, pt fi), (5, .map (some d)), (6, ι f), (7, ι (b + (need (g.length : Int)))), (8, η ms), (19, ς La lm lc), (20, ι (lm : Int)), (21, ι (i + 1))] (mpf d ((iput L ic a ((iget L a) + 1)).map imM) (iclock L ic a) :: ζ fi wj mp Fs fc NA nk nc ns dd [vw La (recV fcC ls), vws (rowsL .u8 (fcR ls))]) (by kernel_rfl) (by kernel_rfl) ?_ ⟨(i + 1), f, (b + (need (g.length : Int))), ms, (iput L ic a ((iget L a) + 1)), (iclock L ic a), (by omega), ‹_›, (by exact may_step hi hst (ca_get m) (fun h_ => by rcases h_ with h_ | h_ | h_; omega; omega; exact (by assumption : ¬ iget _ _ > 1) ((seen_gt hse hIM).2 h_)) (by rw [chas_fe]; simp only [*, reduceIte, Bool.false_eq_true]; try rfl)), (by exact hse.step hIM hi (ca_get m) ‹_›), (by exact hIM.put _ _), (by omega), (by omega), rfl, (by rfl), (by rfl)⟩
  show ((lm - (i + 1)).toNat : Nat) < ((lm - i).toNat : Nat)
  omega
 refine RunC.exit ?_
 refine kseq_e ?_
 refine kloop_e ?_
 refine kblock_e ?_
 refine kseq_n ?_
 refine RunC.seq ?_
 refine RunC.block ?_
 refine RunC.sr ?_
 refine RunR.sl hU [] 2 2 [0, 6, 7, 79] [(0, pt fi), (6, ι f), (7, ι b), (79, η ms)] 2 ?_
 refine RunR.nn ?_
 refine RunC.cond (b := ms) (by kernel_rfl) (fun R => ?_) (fun R => ?_)
 ·refine RunC.sr ?_
  refine RunR.sl hU [] 1 1 [4] [(4, ι 4)] 1 ?_
  refine RunR.nn ?_
  refine RunC.ret ?_
  refine kblock_r ?_
  refine kseq_r ?_
  refine kret_r [ι 4] [1, 1, 1] (ζ fi wj mp Fs fc NA nk nc ns dd []) ⟨rfl, trivial⟩ (by kernel_rfl) rfl ⟨4, rfl, rfl, (by refine Eq.trans ?_ (may_end hst (by rw [ca_len]; omega)); simp_all; try omega)⟩
 refine RunC.sr ?_
 refine RunR.sl hU [] 3 3 [0, 7, 81] [(0, pt fi), (7, ι b), (81, η (decide (f > 64)))] 3 ?_
 refine RunR.nn ?_
 refine RunC.condp (f > 64) (by kernel_rfl) (fun Q => ?_) (fun Q => ?_)
 ·refine RunC.sr ?_
  refine RunR.sl hU [] 1 1 [4] [(4, ι 3)] 1 ?_
  refine RunR.nn ?_
  refine RunC.ret ?_
  refine kblock_r ?_
  refine kseq_r ?_
  refine kret_r [ι 3] [1, 1, 1] (ζ fi wj mp Fs fc NA nk nc ns dd []) ⟨rfl, trivial⟩ (by kernel_rfl) rfl ⟨3, rfl, rfl, (by refine Eq.trans ?_ (may_end hst (by rw [ca_len]; omega)); simp_all; try omega)⟩
 refine RunC.sr ?_
 refine RunR.sl hU [] 2 2 [85, 86] [(85, ι b), (86, pt fi)] 2 ?_
 refine RunR.st (some 87) (.call { callee := .value (.func 11), args := #[.tmp 86], argTypes := #[24] }) (Step.cn 11 [pt fi] [blk fi 51 [pt wj, .map (some mp), ς NA nk nc, η dd], κ 3 .i64 NA nk nc ns] [mpf d (L.map imM) ic, mpf mp (Fs.map feM) fc, vw La (recV fcC ls), vws (rowsL .u8 (fcR ls))] (fl_Free_spec fi wj (.map (some mp)) dd NA nk nc ns ‹_› (fun h => hNA (by exact h)) ‹_› ‹_›) [1, 2] ?_)
 rintro _ _ ⟨rfl, rfl, t0⟩
 refine RunR.sl hU [] 2 5 [84] [(84, η (decide (b > ((frL ns).length : Int))))] 2 ?_
 refine RunR.nn ?_
 refine RunC.condp (b > ((frL ns).length : Int)) (by kernel_rfl) (fun V => ?_) (fun V => ?_)
 ·refine RunC.sr ?_
  refine RunR.sl hU [] 1 1 [4] [(4, ι 2)] 1 ?_
  refine RunR.nn ?_
  refine RunC.ret ?_
  refine kblock_r ?_
  refine kseq_r ?_
  refine kret_r [ι 2] [0, 2, 0] (ζ fi wj mp Fs fc NA nk nc ns dd []) ⟨rfl, trivial⟩ (by kernel_rfl) rfl ⟨2, rfl, rfl, (by refine Eq.trans ?_ (may_end hst (by rw [ca_len]; omega)); simp_all; try omega)⟩
 refine RunC.skip ?_
 refine kblock_n ?_
 refine kseq_n ?_
 refine RunC.sr ?_
 refine RunR.sl hU [] 1 1 [4] [(4, ι 0)] 1 ?_
 refine RunR.nn ?_
 refine RunC.ret ?_
 refine kret_r [ι 0] [0, 2, 0] (ζ fi wj mp Fs fc NA nk nc ns dd []) ⟨rfl, trivial⟩ (by kernel_rfl) rfl ⟨0, rfl, rfl, (by refine Eq.trans ?_ (may_end hst (by rw [ca_len]; omega)); simp_all; try omega)⟩
end Go.Proofs.Ytlibhidhfbecbaa.LFileOne
