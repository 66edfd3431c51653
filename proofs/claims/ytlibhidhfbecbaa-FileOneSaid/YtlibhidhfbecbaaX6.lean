import Derived.Test.YtlibhidhfbecbaaOnePure
import Derived.Test.YtlibhidhfbecbaaProg
import Derived.Test.YtlibhidhfbecbaaX5
namespace Go.Proofs.Ytlibhidhfbecbaa.LFileOne
open Go Go.Proofs.Ytlibhidhfbecbaa.SL Go.Proofs.Ytlibhidhfbecbaa.SL.W Go.Proofs.Ytlibhidhfbecbaa.SL.D Go.Proofs.Ytlibhidhfbecbaa.SL.I Go.Proofs.Ytlibhidhfbecbaa.XT
set_option linter.unusedVariables false
set_option linter.unusedSimpArgs false
set_option maxRecDepth 100000
set_option maxHeartbeats 40000000
theorem wl_place_spec (b : Int) (hb : 0 ≤ b ∧ b ≤ 4294967296) :
 CallsS Try.prog 46 [ι b] [] (fun r D => r = ι (42 + b) ∧ D = []) := by
 refine CallsS.enter hU Try.f46 _ [.tmp 2] 5 Try.func46 rfl (by decide) rfl rfl (by kernel_rfl) fun a W => ?_
 refine RunC.sr ?_
 refine RunR.sl hU [] 1 1 [0, 2] [(0, ι b), (2, ι 0)] 1 ?_
 refine RunR.nx ?_
 refine RunR.sil hU [1] 3 3 [2] [(2, ι (42 + b))] ((True) ∧ (-9223372036854775808 ≤ (42 + b) ∧ (42 + b) < 9223372036854775808) ∧ (True) ∧ True) rfl (by kernel_rfl) ⟨trivial, (by omega), trivial, trivial⟩ ?_
 refine RunR.nn ?_
 refine RunC.ret ?_
 refine kret_r [ι (42 + b)] [] [] ⟨rfl, trivial⟩ (by kernel_rfl) rfl ⟨rfl, rfl⟩
theorem wl_Blocks_spec (wj : Nat) (d : Nat) (A : Option Addr) (n : Nat) (c : Nat) (Wa : Option Addr) (m : Nat) (wc : Nat) (lf : Int) (dn : Bool) (a : n % 256 = 0) (hnb : n ≤ 557056) :
 CallsS Try.prog 25 [pt wj] [blk wj 71 [pt d], blk d 47 [ς A n c, ς Wa m wc, ι lf, η dn]] (fun r D => r = ι ((n : Int) / 256 - 42) ∧ D = [blk wj 71 [pt d], blk d 47 [ς A n c, ς Wa m wc, ι lf, η dn]]) := by
 refine CallsS.enter hU Try.f25 _ [.tmp 2] 9 Try.func25 rfl (by decide) rfl rfl (by kernel_rfl) fun b W => ?_
 refine RunC.sr ?_
 refine RunR.sl hU [] 1 1 [0, 2] [(0, pt wj), (2, ι 0)] 1 ?_
 refine RunR.nx ?_
 refine RunR.sl hU [] 3 3 [2, 5] [(2, ι 0), (5, pt wj)] 3 ?_
 refine RunR.st (some 6) (.load 26 (.tmp 5)) (Step.load_blk hU 0 wj (0) 71 [pt d] (pt d) (by kernel_rfl) (by kernel_rfl) (by kernel_rfl) (by kernel_rfl) ?_)
 refine RunR.st (some 7) (.call { callee := .value (.func 48), args := #[.tmp 6], argTypes := #[26] }) (Step.cn 48 [pt d] [blk d 47 [ς A n c, ς Wa m wc, ι lf, η dn]] [blk wj 71 [pt d]] (d_Blocks_spec d A n c Wa m wc lf dn ‹_› ‹_›) [1] ?_)
 rintro _ _ ⟨rfl, rfl⟩
 refine RunR.sil hU [5] 2 7 [2] [(2, ι (((n : Int) / 256) - 42))] ((-9223372036854775808 ≤ (((n : Int) / 256) - 42) ∧ (((n : Int) / 256) - 42) < 9223372036854775808) ∧ (True) ∧ True) rfl (by kernel_rfl) ⟨(by omega), trivial, trivial⟩ ?_
 refine RunR.nn ?_
 refine RunC.ret ?_
 refine kret_r [ι (((n : Int) / 256) - 42)] [1, 0] [blk wj 71 [pt d], blk d 47 [ς A n c, ς Wa m wc, ι lf, η dn]] ⟨rfl, trivial⟩ (by kernel_rfl) rfl ⟨rfl, rfl⟩
theorem wl_there_spec (wj : Nat) (d : Nat) (A : Option Addr) (n : Nat) (c : Nat) (Wa : Option Addr) (m : Nat) (wc : Nat) (lf : Int) (dn : Bool) (b : Int) (a : n % 256 = 0) (hnb : n ≤ 557056) :
 CallsS Try.prog 44 [pt wj, ι b] [blk wj 71 [pt d], blk d 47 [ς A n c, ς Wa m wc, ι lf, η dn]] (fun r D => r = η (decide (0 ≤ b ∧ 256 * (42 + b) + 256 ≤ (n : Int))) ∧ D = [blk wj 71 [pt d], blk d 47 [ς A n c, ς Wa m wc, ι lf, η dn]]) := by
 refine CallsS.enter hU Try.f44 _ [.tmp 4] 13 Try.func44 rfl (by decide) rfl rfl (by kernel_rfl) fun e W => ?_
 refine RunC.sr ?_
 refine RunR.sl hU [] 1 1 [0, 1, 4] [(0, pt wj), (1, ι b), (4, η false)] 1 ?_
 refine RunR.nx ?_
 refine RunR.sl hU [] 3 3 [0, 1, 4, 7] [(0, pt wj), (1, ι b), (4, η false), (7, η (decide (b ≥ 0)))] 3 ?_
 refine RunR.ev [0, 1, 4, 7] [(0, pt wj), (1, ι b), (4, η false), (7, η (decide (b ≥ 0)))] ?_
 by_cases h1 : b ≥ 0
 ·refine RunR.enveq [(0, pt wj), (1, ι b), (4, η false), (7, η true)] (by rw [decide_eq_true h1]; try rfl) ?_
  refine RunR.sl hU [] 2 5 [4, 7, 8, 9] [(4, η false), (7, η true), (8, ι b), (9, pt wj)] 2 ?_
  refine RunR.st (some 10) (.call { callee := .value (.func 25), args := #[.tmp 9], argTypes := #[40] }) (Step.cn 25 [pt wj] [blk wj 71 [pt d], blk d 47 [ς A n c, ς Wa m wc, ι lf, η dn]] [] (wl_Blocks_spec wj d A n c Wa m wc lf dn ‹_› ‹_›) [0, 0] ?_)
  rintro _ _ ⟨rfl, rfl⟩
  refine RunR.sl hU [] 3 9 [4] [(4, η (decide (b < ((n : Int) / 256 - 42))))] 3 ?_
  refine RunR.nn ?_
  refine RunC.ret ?_
  refine kret_r [η (decide (b < ((n : Int) / 256 - 42)))] [0, 0] [blk wj 71 [pt d], blk d 47 [ς A n c, ς Wa m wc, ι lf, η dn]] ⟨rfl, trivial⟩ (by kernel_rfl) rfl ⟨(by (exact congrArg Value.bool (decide_eq_decide.2 (by omega)))), (by rfl)⟩
 refine RunR.enveq [(0, pt wj), (1, ι b), (4, η false), (7, η false)] (by rw [decide_eq_false h1]; try rfl) ?_
 refine RunR.sl hU [] 6 9 [4] [(4, η false)] 2 ?_
 refine RunR.nn ?_
 refine RunC.ret ?_
 refine kret_r [η false] [0, 0] [blk wj 71 [pt d], blk d 47 [ς A n c, ς Wa m wc, ι lf, η dn]] ⟨rfl, trivial⟩ (by kernel_rfl) rfl ⟨(by (exact congrArg Value.bool (decide_eq_false (by omega)).symm)), (by rfl)⟩
theorem wl_Read_spec (wj : Nat) (d : Nat) (A : Option Addr) (n : Nat) (c : Nat) (ss : List Int) (Wa : Option Addr) (m : Nat) (wc : Nat) (ws : List Ch) (lf : Int) (dn : Bool) (b : Int) (hss : In .u8 ss) (hnl : ss.length = n) (hnc : n ≤ c) (hAs : 0 < n → Option.isSome A = true) (t : n % 256 = 0) (hnb : n ≤ 557056) (hml : ws.length = m) (hmb : m ≤ 900000) (hok : ChOK .u8 ws) (hwk : WOK n ws) (hWs : 0 < m → Option.isSome Wa = true) (hb : fits .i64 b) :
 CallsS Try.prog 22 [pt wj, ι b] (blk wj 71 [pt d] :: δ d A n c ss Wa m wc ws lf dn []) (fun r D => ∃ (j : Option Addr) (k : Nat) (zs : List Int) (e : Int), r = .tuple #[ς j zs.length k, ι e] ∧ D = (κ 5 .u8 j zs.length k zs :: blk wj 71 [pt d] :: δ d A n c ss Wa m wc ws lf dn []) ∧ ((there n b ∧ e = 0 ∧ zs = seenP ss (dat ws) (42 + b) ∧ zs.length = 256) ∨ (¬ there n b ∧ e = 1 ∧ zs = [])) ∧ (In .u8 zs) ∧ (zs.length ≤ k) ∧ (0 < zs.length → Option.isSome j = true)) := by
 refine CallsS.enter hU Try.f22 _ [.tmp 4, .tmp 5] 19 Try.func22 rfl (by decide) rfl rfl (by kernel_rfl) fun u W => ?_
 refine RunC.sr ?_
 refine RunR.sl hU [] 2 2 [0, 1, 4, 5] [(0, pt wj), (1, ι b), (4, ς0), (5, ι 0)] 2 ?_
 refine RunR.nn ?_
 refine RunC.seq ?_
 refine RunC.sr ?_
 refine RunR.sl hU [] 2 2 [0, 1, 4, 5, 6, 7] [(0, pt wj), (1, ι b), (4, ς0), (5, ι 0), (6, pt wj), (7, ι b)] 2 ?_
 refine RunR.st (some 8) (.call { callee := .value (.func 44), args := #[.tmp 6, .tmp 7], argTypes := #[40, 3] }) (Step.cn 44 [pt wj, ι b] [blk wj 71 [pt d], blk d 47 [ς A n c, ς Wa m wc, ι lf, η dn]] [κ 5 .u8 A n c ss, ξ Wa m wc ws, chd .u8 ws] (wl_there_spec wj d A n c Wa m wc lf dn b ‹_› ‹_›) [0, 0] ?_)
 rintro _ _ ⟨rfl, rfl⟩
 refine RunR.sl hU [] 1 4 [0, 1, 4, 5, 9] [(0, pt wj), (1, ι b), (4, ς0), (5, ι 0), (9, η (!decide (0 ≤ b ∧ 256 * (42 + b) + 256 ≤ (n : Int))))] 1 ?_
 refine RunR.nn ?_
 refine RunC.condn (0 ≤ b ∧ 256 * (42 + b) + 256 ≤ (n : Int)) (by kernel_rfl) (fun q => ?_) (fun q => ?_)
 ·refine RunC.sr ?_
  refine RunR.sl hU [] 2 2 [0, 1, 4, 5] [(0, pt wj), (1, ι b), (4, ς0), (5, ι 1)] 2 ?_
  refine RunR.nn ?_
  refine RunC.ret ?_
  refine kseq_r ?_
  refine kret_rt ((κ 5 .u8 none 0 0 ([] : List Int) :: blk wj 71 [pt d] :: δ d A n c ss Wa m wc ws lf dn [])) (fun u W w hs => (hs).nil_row 5 1) [ς0, ι 1] [0, 0, 0, 0, 0, 0] (κ 5 .u8 none 0 0 ([] : List Int) :: blk wj 71 [pt d] :: δ d A n c ss Wa m wc ws lf dn []) ⟨rfl, rfl, trivial⟩ (by kernel_rfl) rfl ⟨none, 0, ([] : List Int), 1, rfl, rfl, (by exact .inr ⟨by assumption, rfl, rfl⟩), (by exact In.nil _), (by exact Nat.le_refl _), (by intro h; simp at h)⟩
 refine RunC.ks ?_
 refine RunC.seq ?_
 refine RunC.regionU hU 11 [blk wj 71 [pt d]] [0] [6, 9, 10] (bm 11 0) (by kernel_rfl) (by kernel_rfl) (by kernel_rfl) ?_
 refine RunU.sl hU 0 (bm 11 1) 10 (pt wj) ?_
 refine RunU.sl hU 1 (bm 11 3) 11 (pt wj) ?_
 refine RunU.sl hU 2 (bm 11 7) 12 (pt wj) ?_
 refine RunU.rd 3 (bm 11 15) 13 (.load 26 (.tmp 12)) (pt d) [0] (Reads.load_blk hU 0 wj (0) 71 [pt d] (pt d) (by kernel_rfl) (by kernel_rfl) (by kernel_rfl)) ?_
 refine RunU.sl hU 4 (bm 11 31) 14 (ι b) ?_
 refine RunU.on (some 15) (.call { callee := .value (.func 46), args := #[.tmp 14], argTypes := #[3] }) 5 (bm 11 63) [0] (Step.cn 46 [ι b] [] (blk wj 71 [pt d] :: δ d A n c ss Wa m wc ws lf dn []) (wl_place_spec b (by omega)) [] ?_)
 rintro _ _ ⟨rfl, rfl⟩
 refine orL ?_
 refine RunU.on (some 16) (.call { callee := .value (.func 45), args := #[.tmp 13, .tmp 15], argTypes := #[26, 3] }) 6 (bm 11 127) [] (Step.cn 45 [pt d, ι (42 + b)] (δ d A n c ss Wa m wc ws lf dn []) [blk wj 71 [pt d]] (d_Read_spec d A n c ss Wa m wc ws lf dn (42 + b) hss ‹_› ‹_› (fun h => hAs (by exact h)) ‹_› ‹_› ‹_› (by omega) ‹_› ‹_› (fun h => hWs (by exact h)) (by (refine ⟨?_, ?_⟩ <;> omega))) [1, 1, 1, 1] ?_)
 rintro _ _ ⟨g, f, a, i, rfl, rfl, p, l, s, o⟩
 refine orR ?_
 refine RunU.sl hU 7 (bm 11 255) 17 (ς g a.length f) ?_
 refine RunU.sl hU 8 (bm 11 511) 18 (ι i) ?_
 refine RunU.sl hU 9 (bm 11 1023) 4 (ς g a.length f) ?_
 refine RunU.sl hU 10 (bm 11 2047) 5 (ι i) ?_
 refine RunU.ev [4, 5] [(4, ς g a.length f), (5, ι i)] ?_
 refine RunU.dn ?_
 refine kseq_n ?_
 refine RunC.ret ?_
 refine kret_r [ς g a.length f, ι i] [0, 4, 0, 0, 0, 0] (κ 5 .u8 g a.length f a :: blk wj 71 [pt d] :: δ d A n c ss Wa m wc ws lf dn []) ⟨rfl, rfl, trivial⟩ (by kernel_rfl) rfl ⟨g, f, a, i, rfl, rfl, (by exact .inl ⟨by assumption, wl_read ‹_› p⟩), l, ‹_›, (fun h => o (by exact h))⟩
theorem wl_Write_spec (wj : Nat) (d : Nat) (A : Option Addr) (n : Nat) (c : Nat) (ss : List Int) (Wa : Option Addr) (m : Nat) (wc : Nat) (ws : List Ch) (lf : Int) (dn : Bool) (b : Int) (a : Option Addr) (g : Nat) (bs : List Int) (l_bs : Nat) (hss : In .u8 ss) (hnl : ss.length = n) (hnc : n ≤ c) (hAs : 0 < n → Option.isSome A = true) (J : n % 256 = 0) (hnb : n ≤ 557056) (hml : ws.length = m) (hmb : m ≤ 900000) (hok : ChOK .u8 ws) (hwk : WOK n ws) (hWs : 0 < m → Option.isSome Wa = true) (hlf : 0 ≤ lf ∧ lf < 9223372036854775808) (hb : fits .i64 b) (hIbs : In .u8 bs) (hCbs : bs.length ≤ g) (hBbs : bs.length ≤ 140737488351232) (hl_bs : bs.length = l_bs) :
 CallsS Try.prog 38 [pt wj, ι b, ς a l_bs g] (blk wj 71 [pt d] :: δ d A n c ss Wa m wc ws lf dn [ν .u8 a bs]) (fun r D => ∃ (e : Int) (Wb : Option Addr) (u : Nat) (x : Nat) (f : List Ch) (i : Int) (s : Bool), r = ι e ∧ D = (blk wj 71 [pt d] :: δ d A n c ss Wb u x f i s []) ∧ ((e, dat f, i, s) = if there n b then writeP n (dat ws) lf dn (42 + b) bs else (1, dat ws, lf, dn)) ∧ (f.length = u) ∧ (u ≤ m + 1) ∧ (ChOK .u8 f) ∧ (WOK n f) ∧ (0 < u → Option.isSome Wb = true) ∧ (0 ≤ i ∧ i < 9223372036854775808)) := by
 subst hl_bs
 refine CallsS.enter hU Try.f38 _ [.tmp 6] 19 Try.func38 rfl (by decide) rfl rfl (by kernel_rfl) fun K W => ?_
 refine RunC.know (p := 0 < bs.length → Option.isSome a = true) (fun _ _ w hs => vw_some hs 5 rfl (by (simp [nums_length]; done))) (fun I => ?_)
 refine RunC.sr ?_
 refine RunR.sl hU [] 1 1 [0, 1, 2, 6] [(0, pt wj), (1, ι b), (2, ς a bs.length g), (6, ι 0)] 1 ?_
 refine RunR.nn ?_
 refine RunC.seq ?_
 refine RunC.sr ?_
 refine RunR.sl hU [] 2 2 [0, 1, 2, 6, 7, 8] [(0, pt wj), (1, ι b), (2, ς a bs.length g), (6, ι 0), (7, pt wj), (8, ι b)] 2 ?_
 refine RunR.st (some 9) (.call { callee := .value (.func 44), args := #[.tmp 7, .tmp 8], argTypes := #[40, 3] }) (Step.cn 44 [pt wj, ι b] [blk wj 71 [pt d], blk d 47 [ς A n c, ς Wa m wc, ι lf, η dn]] [κ 5 .u8 A n c ss, ξ Wa m wc ws, chd .u8 ws, ν .u8 a bs] (wl_there_spec wj d A n c Wa m wc lf dn b ‹_› ‹_›) [0, 0] ?_)
 rintro _ _ ⟨rfl, rfl⟩
 refine RunR.sl hU [] 1 4 [0, 1, 2, 6, 10] [(0, pt wj), (1, ι b), (2, ς a bs.length g), (6, ι 0), (10, η (!decide (0 ≤ b ∧ 256 * (42 + b) + 256 ≤ (n : Int))))] 1 ?_
 refine RunR.nn ?_
 refine RunC.condn (0 ≤ b ∧ 256 * (42 + b) + 256 ≤ (n : Int)) (by kernel_rfl) (fun H => ?_) (fun H => ?_)
 ·refine RunC.sr ?_
  refine RunR.sl hU [] 1 1 [0, 1, 2, 6] [(0, pt wj), (1, ι b), (2, ς a bs.length g), (6, ι 1)] 1 ?_
  refine RunR.nn ?_
  refine RunC.ret ?_
  refine kseq_r ?_
  refine kret_r [ι 1] [0, 0, 0, 0, 0] (blk wj 71 [pt d] :: δ d A n c ss Wa m wc ws lf dn []) ⟨rfl, trivial⟩ (by kernel_rfl) rfl ⟨1, Wa, m, wc, ws, lf, dn, rfl, rfl, (by exact (if_neg ‹_›).symm), ‹_›, (by omega), ‹_›, ‹_›, ‹_›, ‹_›⟩
 refine RunC.ks ?_
 refine RunC.seq ?_
 refine RunC.regionU hU 9 [blk wj 71 [pt d]] [0] [7, 8] (bm 9 0) (by kernel_rfl) (by kernel_rfl) (by kernel_rfl) ?_
 refine RunU.sl hU 0 (bm 9 1) 11 (pt wj) ?_
 refine RunU.sl hU 1 (bm 9 3) 12 (pt wj) ?_
 refine RunU.sl hU 2 (bm 9 7) 13 (pt wj) ?_
 refine RunU.rd 3 (bm 9 15) 14 (.load 26 (.tmp 13)) (pt d) [0] (Reads.load_blk hU 0 wj (0) 71 [pt d] (pt d) (by kernel_rfl) (by kernel_rfl) (by kernel_rfl)) ?_
 refine RunU.sl hU 4 (bm 9 31) 15 (ι b) ?_
 refine RunU.sl hU 6 (bm 9 95) 17 (ς a bs.length g) ?_
 refine RunU.on (some 16) (.call { callee := .value (.func 46), args := #[.tmp 15], argTypes := #[3] }) 5 (bm 9 127) [0] (Step.cn 46 [ι b] [] (blk wj 71 [pt d] :: δ d A n c ss Wa m wc ws lf dn [ν .u8 a bs]) (wl_place_spec b (by omega)) [] ?_)
 rintro _ _ ⟨rfl, rfl⟩
 refine orL ?_
 refine RunU.on (some 18) (.call { callee := .value (.func 52), args := #[.tmp 14, .tmp 16, .tmp 17], argTypes := #[26, 3, 22] }) 7 (bm 9 255) [] (Step.cl 52 [pt d, ι (42 + b), ς a bs.length g] (δ d A n c ss Wa m wc ws lf dn []) [ν .u8 a bs] [blk wj 71 [pt d], ν .u8 a bs] (d_Write_spec d A n c ss Wa m wc ws lf dn (42 + b) a g bs bs.length hss ‹_› ‹_› (fun h => hAs (by exact h)) ‹_› ‹_› ‹_› (by omega) ‹_› ‹_› (fun h => hWs (by exact h)) ‹_› (by (refine ⟨?_, ?_⟩ <;> omega)) hIbs ‹_› ‹_› (by rfl)) [1, 1, 1, 1] ((Lend.nil _).tells 1 (ν .u8 a bs) a (nums .u8 bs) (by kernel_rfl) (tells_vw _ _)) ?_)
 rintro _ _ ⟨v, t, q, l, o, k, j, rfl, rfl, E, z, y, B, G, F, C⟩
 refine orR ?_
 refine RunU.sl hU 8 (bm 9 511) 6 (ι v) ?_
 refine RunU.ev [6] [(6, ι v)] ?_
 refine RunU.dn ?_
 refine kseq_n ?_
 refine RunC.ret ?_
 refine kret_r [ι v] [4, 0, 0, 0, 0] (blk wj 71 [pt d] :: δ d A n c ss t q l o k j []) ⟨rfl, trivial⟩ (by kernel_rfl) rfl ⟨v, t, q, l, o, k, j, rfl, rfl, (by exact Eq.trans ‹_› (if_pos ‹_›).symm), ‹_›, (by omega), ‹_›, ‹_›, ‹_›, ‹_›⟩
end Go.Proofs.Ytlibhidhfbecbaa.LFileOne
