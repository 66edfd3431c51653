import Derived.Test.YtlibhidhfbecbaaOnePure
import Derived.Test.YtlibhidhfbecbaaProg
import Derived.Test.YtlibhidhfbecbaaX2
namespace Go.Proofs.Ytlibhidhfbecbaa.LFileOne
open Go Go.Proofs.Ytlibhidhfbecbaa.SL Go.Proofs.Ytlibhidhfbecbaa.SL.W Go.Proofs.Ytlibhidhfbecbaa.SL.D Go.Proofs.Ytlibhidhfbecbaa.SL.I Go.Proofs.Ytlibhidhfbecbaa.XT
set_option linter.unusedVariables false
set_option linter.unusedSimpArgs false
set_option maxRecDepth 100000
set_option maxHeartbeats 40000000
theorem d_Write_spec (d : Nat) (A : Option Addr) (n : Nat) (c : Nat) (ss : List Int) (Wa : Option Addr) (m : Nat) (wc : Nat) (ws : List Ch) (lf : Int) (dn : Bool) (b : Int) (o : Option Addr) (q : Nat) (bs : List Int) (l_bs : Nat) (hss : In .u8 ss) (hnl : ss.length = n) (hnc : n ≤ c) (hAs : 0 < n → Option.isSome A = true) (O : n % 256 = 0) (hnb : n ≤ 557056) (hml : ws.length = m) (hmb : m ≤ 1000000) (hok : ChOK .u8 ws) (hwk : WOK n ws) (hWs : 0 < m → Option.isSome Wa = true) (hlf : 0 ≤ lf ∧ lf < 9223372036854775808) (hb : fits .i64 b) (hIbs : In .u8 bs) (hCbs : bs.length ≤ q) (hBbs : bs.length ≤ 140737488351232) (hl_bs : bs.length = l_bs) :
 CallsS Try.prog 52 [pt d, ι b, ς o l_bs q] (δ d A n c ss Wa m wc ws lf dn [ν .u8 o bs]) (fun r D => ∃ (e : Int) (Wb : Option Addr) (z : Nat) (E : Nat) (s : List Ch) (u : Int) (x : Bool), r = ι e ∧ D = (δ d A n c ss Wb z E s u x []) ∧ ((e, dat s, u, x) = writeP n (dat ws) lf dn b bs) ∧ (s.length = z) ∧ (z ≤ m + 1) ∧ (ChOK .u8 s) ∧ (WOK n s) ∧ (0 < z → Option.isSome Wb = true) ∧ (0 ≤ u ∧ u < 9223372036854775808)) := by
 subst hl_bs
 refine CallsS.enter hU Try.f52 _ [.tmp 6] 39 Try.func52 rfl (by decide) rfl rfl (by kernel_rfl) fun Q W => ?_
 have C := hb; simp only [fits] at C
 refine RunC.know (p := 0 < bs.length → Option.isSome o = true) (fun _ _ w hs => vw_some hs 4 rfl (by (simp [nums_length]; done))) (fun N => ?_)
 refine RunC.sr ?_
 refine RunR.sl hU [] 1 1 [0, 1, 2, 6] [(0, pt d), (1, ι b), (2, ς o bs.length q), (6, ι 0)] 1 ?_
 refine RunR.nn ?_
 refine RunC.seq ?_
 refine RunC.block ?_
 refine RunC.sr ?_
 refine RunR.sl hU [] 2 2 [0, 1, 2, 6, 9, 10] [(0, pt d), (1, ι b), (2, ς o bs.length q), (6, ι 0), (9, pt d), (10, ι b)] 2 ?_
 refine RunR.st (some 11) (.call { callee := .value (.func 67), args := #[.tmp 9, .tmp 10], argTypes := #[26, 3] }) (Step.cn 67 [pt d, ι b] [blk d 47 [ς A n c, ς Wa m wc, ι lf, η dn]] [κ 5 .u8 A n c ss, ξ Wa m wc ws, chd .u8 ws, ν .u8 o bs] (d_there_spec d A n c Wa m wc lf dn b ‹_› ‹_›) [0] ?_)
 rintro _ _ ⟨rfl, rfl⟩
 refine RunR.sl hU [] 2 5 [0, 1, 2, 6, 13] [(0, pt d), (1, ι b), (2, ς o bs.length q), (6, ι 0), (13, η (!decide (0 ≤ b ∧ 256 * b + 256 ≤ (n : Int))))] 2 ?_
 refine RunR.ev [0, 1, 2, 6, 13] [(0, pt d), (1, ι b), (2, ς o bs.length q), (6, ι 0), (13, η (!decide (0 ≤ b ∧ 256 * b + 256 ≤ (n : Int))))] ?_
 by_cases h2 : 0 ≤ b ∧ 256 * b + 256 ≤ (n : Int)
 ·refine RunR.enveq [(0, pt d), (1, ι b), (2, ς o bs.length q), (6, ι 0), (13, η false)] (by rw [decide_eq_true h2]; try rfl) ?_
  refine RunR.sl hU [] 5 10 [0, 1, 2, 6, 8] [(0, pt d), (1, ι b), (2, ς o bs.length q), (6, ι 0), (8, η (!decide ((bs.length : Int) = 256)))] 5 ?_
  refine RunR.nn ?_
  refine RunC.condn ((bs.length : Int) = 256) (by kernel_rfl) (fun M => ?_) (fun M => ?_)
  ·refine RunC.sr ?_
   refine RunR.sl hU [] 1 1 [0, 1, 2, 6] [(0, pt d), (1, ι b), (2, ς o bs.length q), (6, ι 1)] 1 ?_
   refine RunR.nn ?_
   refine RunC.ret ?_
   refine kblock_r ?_
   refine kseq_r ?_
   refine kret_r [ι 1] [0, 0, 0, 0] (δ d A n c ss Wa m wc ws lf dn []) ⟨rfl, trivial⟩ (by kernel_rfl) rfl ⟨1, Wa, m, wc, ws, lf, dn, rfl, rfl, (by exact write_bad (.inr (by omega))), ‹_›, (by omega), ‹_›, ‹_›, ‹_›, ‹_›⟩
  refine RunC.sr ?_
  refine RunR.sl hU [] 3 3 [0, 1, 2, 6, 21] [(0, pt d), (1, ι b), (2, ς o bs.length q), (6, ι 0), (21, .pointer (some ⟨d, 3, none⟩))] 3 ?_
  refine RunR.st (some 22) (.load 4 (.tmp 21)) (Step.load_blk hU 0 d (3) 47 [ς A n c, ς Wa m wc, ι lf, η dn] (η dn) (by kernel_rfl) (by kernel_rfl) (by kernel_rfl) (by kernel_rfl) ?_)
  refine RunR.sl hU [] 1 5 [0, 1, 2, 6, 18] [(0, pt d), (1, ι b), (2, ς o bs.length q), (6, ι 0), (18, η dn)] 1 ?_
  refine RunR.nn ?_
  refine RunC.cond (b := dn) (by kernel_rfl) (fun P => ?_) (fun P => ?_)
  ·refine RunC.sr ?_
   refine RunR.sl hU [] 1 1 [0, 1, 2, 6] [(0, pt d), (1, ι b), (2, ς o bs.length q), (6, ι 11)] 1 ?_
   refine RunR.nn ?_
   refine RunC.ret ?_
   refine kblock_r ?_
   refine kseq_r ?_
   refine kret_r [ι 11] [0, 0, 0, 0] (δ d A n c ss Wa m wc ws lf dn []) ⟨rfl, trivial⟩ (by kernel_rfl) rfl ⟨11, Wa, m, wc, ws, lf, dn, rfl, rfl, (by exact write_down (by omega) (by omega) (by omega) ‹_›), ‹_›, (by omega), ‹_›, ‹_›, ‹_›, ‹_›⟩
  refine RunC.skip ?_
  refine kblock_n ?_
  refine kseq_n ?_
  refine RunC.sr ?_
  refine RunR.sl hU [] 1 1 [0, 1, 2, 6, 23] [(0, pt d), (1, ι b), (2, ς o bs.length q), (6, ι 0), (23, pt d)] 1 ?_
  refine RunR.st (some 24) (.call { callee := .value (.func 71), args := #[.tmp 23], argTypes := #[26] }) (Step.cn 71 [pt d] [blk d 47 [ς A n c, ς Wa m wc, ι lf, η dn]] [κ 5 .u8 A n c ss, ξ Wa m wc ws, chd .u8 ws, ν .u8 o bs] (d_act_spec d A n c Wa m wc lf dn ‹_›) [0] ?_)
  rintro _ _ ⟨j, g, rfl, rfl, y, L⟩
  refine RunR.sl hU [] 1 3 [0, 1, 2, 6, 7] [(0, pt d), (1, ι b), (2, ς o bs.length q), (6, ι 0), (7, η g)] 1 ?_
  refine RunR.nn ?_
  refine RunC.seq ?_
  refine RunC.regionU hU 14 [blk d 47 [ς A n c, ς Wa m wc, ι j, η g]] [0] [10, 11, 12, 13] (bm 14 0) (by kernel_rfl) (by kernel_rfl) (by kernel_rfl) ?_
  refine RunU.sl hU 0 (bm 14 1) 25 (pt d) ?_
  refine RunU.sl hU 1 (bm 14 3) 26 (pt d) ?_
  refine RunU.sl hU 2 (bm 14 7) 27 (pt d) ?_
  refine RunU.sl hU 3 (bm 14 15) 28 (.pointer (some ⟨d, 1, none⟩)) ?_
  refine RunU.rd 4 (bm 14 31) 29 (.load 45 (.tmp 28)) (ς Wa m wc) [0] (Reads.load_blk hU 0 d (1) 47 [ς A n c, ς Wa m wc, ι j, η g] (ς Wa m wc) (by kernel_rfl) (by kernel_rfl) (by kernel_rfl)) ?_
  refine RunU.sl hU 5 (bm 14 63) 30 (ι b) ?_
  refine RunU.sl hU 6 (bm 14 127) 31 (ς o bs.length q) ?_
  refine RunU.on (some 32) (.call { callee := .value (.func 69), args := #[.tmp 31], argTypes := #[22] }) 7 (bm 14 255) [1] (Step.cl 69 [ς o bs.length q] [] [ν .u8 o bs] (δ d A n c ss Wa m wc ws j g [ν .u8 o bs]) (d_Clone_spec o q bs bs.length hIbs ‹_› ‹_› (by rfl)) [] ((Lend.nil _).tells 4 (ν .u8 o bs) o (nums .u8 bs) (by kernel_rfl) (tells_vw _ _)) ?_)
  rintro _ _ ⟨i, f, a, rfl, rfl, v, G, K, J, I⟩
  refine orL ?_
  refine RunU.sl hU 8 (bm 14 511) 33 (.agg #[ι b, ς i a.length f]) ?_
  refine RunU.on (some 34) (.buildSlice 45 1 #[(0, .tmp 33)]) 9 (bm 14 1023) [2] (Step.lit_pair hU 97 32 (.agg #[ι 0, ς0]) (ι b) (ς i a.length f) (by kernel_rfl) (by kernel_rfl) (by kernel_rfl) rfl rfl (by kernel_rfl) (fun t => ?_))
  refine orL ?_
  refine RunU.turn ((ξ (ad t) 1 1 ([(b, i, f, a)] : List Ch) :: κ 5 .u8 i a.length f a :: δ d A n c ss Wa m wc ws j g [ν .u8 o bs])) (fun _ _ w hs => hs) ?_
  refine RunU.on (some 35) (.call { callee := .builtin .append, args := #[.tmp 29, .tmp 34], argTypes := #[45, 45] }) 10 (bm 14 2047) [] (Step.append_ch hU 97 32 (.agg #[ι 0, ς0]) 4 0 Wa m wc ws (ad t) 1 1 (ξ (ad t) 1 1 ([(b, i, f, a)] : List Ch)) ([(b, i, f, a)] : List Ch) (by kernel_rfl) (by kernel_rfl) (by kernel_rfl) (by kernel_rfl) (by kernel_rfl) (by kernel_rfl) (by kernel_rfl) (tells_row _ _ _ _ _ _) rfl (by omega) (by omega) (by kernel_rfl) (fun k l F H => ?_))
  refine orR ?_
  refine RunU.turn ([chd .u8 (ws ++ ([(b, i, f, a)] : List Ch)), ξ k (m + 1) l (ws ++ ([(b, i, f, a)] : List Ch)), ξ (ad t) 1 1 ([(b, i, f, a)] : List Ch), blk d 47 [ς A n c, ς Wa m wc, ι j, η g], κ 5 .u8 A n c ss, ν .u8 o bs]) (fun _ _ w hs => SAT.chdPush b i f a rfl (tells_row _ _ _ _ _ _) (hs.pulls2 [2, 4] ([κ 5 .u8 i a.length f a, chd .u8 ws, ξ k (m + 1) l (ws ++ ([(b, i, f, a)] : List Ch)), ξ (ad t) 1 1 ([(b, i, f, a)] : List Ch), blk d 47 [ς A n c, ς Wa m wc, ι j, η g], κ 5 .u8 A n c ss, ν .u8 o bs]) (by kernel_rfl))) ?_
  refine RunU.sl hU 11 (bm 14 4095) 36 (pt d) ?_
  refine RunU.sl hU 12 (bm 14 8191) 37 (.pointer (some ⟨d, 1, none⟩)) ?_
  refine RunU.on none (.store 45 (.tmp 37) (.tmp 35)) 13 (bm 14 16383) [] (Step.store_blk hU 3 d 1 47 [ς A n c, ς Wa m wc, ι j, η g] (ς k (m + 1) l) (by kernel_rfl) (by kernel_rfl) (by kernel_rfl) 1 rfl [ς k (m + 1) l] (by kernel_rfl) rfl (by kernel_rfl) (by simp) ?_)
  refine orR ?_
  refine RunU.ev [6, 7] [(6, ι 0), (7, η g)] ?_
  refine RunU.dn ?_
  refine kseq_n ?_
  refine RunC.seq ?_
  refine RunC.sr ?_
  refine RunR.sl hU [] 1 1 [6, 38] [(6, ι 0), (38, η g)] 1 ?_
  refine RunR.nn ?_
  refine RunC.cond (b := g) (by kernel_rfl) (fun B => ?_) (fun B => ?_)
  ·refine RunC.sr ?_
   refine RunR.sl hU [] 1 1 [6] [(6, ι 11)] 1 ?_
   refine RunR.nn ?_
   refine RunC.ret ?_
   refine kseq_r ?_
   refine kret_r [ι 11] [0, 3, 1, 0] [blk d 47 [ς A n c, ς k (m + 1) l, ι j, η g], κ 5 .u8 A n c ss, ξ k (m + 1) l (ws ++ ([(b, i, f, a)] : List Ch)), chd .u8 (ws ++ ([(b, i, f, a)] : List Ch))] ⟨rfl, trivial⟩ (by kernel_rfl) rfl ⟨11, k, (m + 1), l, (ws ++ ([(b, i, f, a)] : List Ch)), j, g, rfl, rfl, (by exact write_go (by omega) (by omega) (by omega) ‹_› y v (by rw [if_pos ‹_›])), (by simp only [List.length_append, List.length_cons, List.length_nil]; omega), (by omega), (by exact hok.append (ChOK.one (by refine ⟨?_, ?_⟩ <;> omega) ‹_› ‹_› (by omega))), (by exact hwk.app (by omega) (by omega) (by omega)), ‹_›, ‹_›⟩
  refine RunC.ksr ?_
  refine RunR.sl hU [] 1 1 [6] [(6, ι 0)] 1 ?_
  refine RunR.nn ?_
  refine RunC.ret ?_
  refine kret_r [ι 0] [0, 3, 1, 0] [blk d 47 [ς A n c, ς k (m + 1) l, ι j, η g], κ 5 .u8 A n c ss, ξ k (m + 1) l (ws ++ ([(b, i, f, a)] : List Ch)), chd .u8 (ws ++ ([(b, i, f, a)] : List Ch))] ⟨rfl, trivial⟩ (by kernel_rfl) rfl ⟨0, k, (m + 1), l, (ws ++ ([(b, i, f, a)] : List Ch)), j, g, rfl, rfl, (by exact write_go (by omega) (by omega) (by omega) ‹_› y v (by rw [if_neg (Bool.eq_false_iff.1 ‹_›)])), (by simp only [List.length_append, List.length_cons, List.length_nil]; omega), (by omega), (by exact hok.append (ChOK.one (by refine ⟨?_, ?_⟩ <;> omega) ‹_› ‹_› (by omega))), (by exact hwk.app (by omega) (by omega) (by omega)), ‹_›, ‹_›⟩
 refine RunR.enveq [(0, pt d), (1, ι b), (2, ς o bs.length q), (6, ι 0), (13, η true)] (by rw [decide_eq_false h2]; try rfl) ?_
 refine RunR.sl hU [] 5 10 [0, 1, 2, 6, 8] [(0, pt d), (1, ι b), (2, ς o bs.length q), (6, ι 0), (8, η true)] 2 ?_
 refine RunR.nn ?_
 refine RunC.cond (b := true) (by kernel_rfl) (fun _ => ?_) (fun h => by cases h)
 refine RunC.sr ?_
 refine RunR.sl hU [] 1 1 [0, 1, 2, 6] [(0, pt d), (1, ι b), (2, ς o bs.length q), (6, ι 1)] 1 ?_
 refine RunR.nn ?_
 refine RunC.ret ?_
 refine kblock_r ?_
 refine kseq_r ?_
 refine kret_r [ι 1] [0, 0, 0, 0] (δ d A n c ss Wa m wc ws lf dn []) ⟨rfl, trivial⟩ (by kernel_rfl) rfl ⟨1, Wa, m, wc, ws, lf, dn, rfl, rfl, (by exact write_bad (.inl (by omega))), ‹_›, (by omega), ‹_›, ‹_›, ‹_›, ‹_›⟩
theorem d_put_spec (d : Nat) (A : Option Addr) (n : Nat) (c : Nat) (ss : List Int) (Wa : Option Addr) (m : Nat) (wc : Nat) (lf : Int) (dn : Bool) (b : Int) (f : Option Addr) (g : Nat) (bs : List Int) (l_bs : Nat) (hss : In .u8 ss) (hnl : ss.length = n) (hnc : n ≤ c) (hAs : 0 < n → Option.isSome A = true) (x : n % 256 = 0) (hnb : n ≤ 557056) (v : 0 ≤ b) (u : 256 * b + 256 ≤ n) (hbl : bs.length = 256) (hbi : In .u8 bs) (hbc : bs.length ≤ g) (hl_bs : bs.length = l_bs) :
 CallsS Try.prog 72 [pt d, .agg #[ι b, ς f l_bs g]] [blk d 47 [ς A n c, ς Wa m wc, ι lf, η dn], κ 5 .u8 A n c ss, ν .u8 f bs] (fun r D => ∃ (i : List Int), r = .tuple #[] ∧ D = [blk d 47 [ς A n c, ς Wa m wc, ι lf, η dn], κ 5 .u8 A n c i] ∧ (i = putP ss (b, bs)) ∧ (i.length = n) ∧ (In .u8 i)) := by
 subst hl_bs
 refine CallsS.enter hU Try.f72 _ [] 15 Try.func72 rfl (by decide) rfl rfl (by kernel_rfl) fun C W => ?_
 refine RunC.know (p := 0 < bs.length → Option.isSome f = true) (fun _ _ w hs => vw_some hs 2 rfl (by (simp [nums_length]; done))) (fun t => ?_)
 refine RunC.sr ?_
 refine RunR.st (some 3) (.box 97 (.tmp 1)) (Step.box (.agg #[ι b, ς f bs.length g]) (by kernel_rfl) (by kernel_rfl) (fun j => ?_))
 refine RunR.nn ?_
 refine RunC.regionU hU 11 [blk d 47 [ς A n c, ς Wa m wc, ι lf, η dn], blk j 97 [ι b, ς f bs.length g]] [1, 0] [10] (bm 11 0) (by kernel_rfl) (by kernel_rfl) (by kernel_rfl) ?_
 refine RunU.sl hU 0 (bm 11 1) 4 (pt d) ?_
 refine RunU.sl hU 1 (bm 11 3) 5 (pt d) ?_
 refine RunU.sl hU 2 (bm 11 7) 6 (pt d) ?_
 refine RunU.rd 3 (bm 11 15) 7 (.load 22 (.tmp 6)) (ς A n c) [1, 0] (Reads.load_blk hU 0 d (0) 47 [ς A n c, ς Wa m wc, ι lf, η dn] (ς A n c) (by kernel_rfl) (by kernel_rfl) (by kernel_rfl)) ?_
 refine RunU.sl hU 4 (bm 11 31) 8 (pt j) ?_
 refine RunU.rd 5 (bm 11 63) 9 (.load 3 (.tmp 8)) (ι b) [1, 0] (Reads.load_blk hU 1 j (0) 97 [ι b, ς f bs.length g] (ι b) (by kernel_rfl) (by kernel_rfl) (by kernel_rfl)) ?_
 refine RunU.sil hU true 6 (bm 11 127) 10 (ι (256 * b)) (-9223372036854775808 ≤ (256 * b) ∧ (256 * b) < 9223372036854775808) (by kernel_rfl) (by omega) (by kernel_rfl) (by kernel_rfl) (fun _ _ _ h => h) ?_
 refine RunU.sil hU false 7 (bm 11 255) 11 (ς (subBase A ((256 * b).toNat) c 1) (n - ((256 * b).toNat)) (c - ((256 * b).toNat))) (0 ≤ (256 * b) ∧ (256 * b) ≤ (n : Int)) (by kernel_rfl) (by omega) (by kernel_rfl) (by kernel_rfl) (fun _ _ _ h => h) ?_
 obtain ⟨a, k⟩ : ∃ z : List Int, z = (ss.drop ((256 * b).toNat)).take (n - ((256 * b).toNat)) := ⟨_, rfl⟩
 have q : a.length = n - ((256 * b).toNat) := by rw [k, List.length_take, List.length_drop]; omega
 have o : Tells (κ 5 .u8 A n c ss) (subBase A ((256 * b).toNat) c 1) (nums .u8 a) := by rw [k]; exact tells_sub_nums (tells_row _ _ _ _ _ _) _ _ _ (by omega) (by omega)
 have B : 0 < a.length → Option.isSome (subBase A ((256 * b).toNat) c 1) = true := fun h => part_some (hAs (by omega)) _ _ _
 refine RunU.ev [0, 1, 3, 4, 5, 6, 7, 8, 9, 10, 11] [(0, pt d), (1, .agg #[ι b, ς f bs.length g]), (3, pt j), (4, pt d), (5, pt d), (6, pt d), (7, ς A n c), (8, pt j), (9, ι b), (10, ι (256 * b)), (11, ς (subBase A ((256 * b).toNat) c 1) (n - ((256 * b).toNat)) (c - ((256 * b).toNat)))] ?_
 refine RunU.enveq [(0, pt d), (1, .agg #[ι b, ς f bs.length g]), (3, pt j), (4, pt d), (5, pt d), (6, pt d), (7, ς A n c), (8, pt j), (9, ι b), (10, ι (256 * b)), (11, ς (subBase A ((256 * b).toNat) c 1) a.length (c - ((256 * b).toNat)))] (by rw [q]) ?_
 have y : In .u8 a := by rw [k]; exact (hss.drop _).take _
 refine RunU.sl hU 8 (bm 11 511) 12 (.pointer (some ⟨j, 1, none⟩)) ?_
 refine RunU.rd 9 (bm 11 1023) 13 (.load 22 (.tmp 12)) (ς f bs.length g) [1, 0] (Reads.load_blk hU 1 j (1) 97 [ι b, ς f bs.length g] (ς f bs.length g) (by kernel_rfl) (by kernel_rfl) (by kernel_rfl)) ?_
 refine RunU.on (some 14) (.call { callee := .builtin .copy, args := #[.tmp 11, .tmp 13], argTypes := #[22, 22] }) 10 (bm 11 2047) [] (Step.copy_row hU 5 2 3 ((256 * b).toNat) n c a.length (c - ((256 * b).toNat)) bs.length g A (subBase A ((256 * b).toNat) c 1) f ss (ν .u8 f bs) .u8 bs (by kernel_rfl) (by kernel_rfl) (by kernel_rfl) (fun h b e => by rw [e]; rw [sub_at (by omega), Nat.zero_add]) (by kernel_rfl) (by kernel_rfl) (by kernel_rfl) (tells_vw _ _) (by rfl) (by omega) (by kernel_rfl) ?_)
 have s : (putl ss ((256 * b).toNat) (bs.take a.length)).length = ss.length := putl_len (by simp only [List.length_take]; omega)
 have l : In .u8 (putl ss ((256 * b).toNat) (bs.take a.length)) := hss.putl (hbi.take _)
 refine orR ?_
 refine RunU.ev [] [] ?_
 refine RunU.dn ?_
 refine kret_n [] [2, 0] [blk d 47 [ς A n c, ς Wa m wc, ι lf, η dn], κ 5 .u8 A n c (putl ss ((256 * b).toNat) (bs.take a.length))] trivial (by kernel_rfl) rfl ⟨(putl ss ((256 * b).toNat) (bs.take a.length)), rfl, rfl, (by rw [putP, List.take_of_length_le (by omega), show (256 * b).toNat = 256 * b.toNat by omega]), (by omega), l⟩
end Go.Proofs.Ytlibhidhfbecbaa.LFileOne
