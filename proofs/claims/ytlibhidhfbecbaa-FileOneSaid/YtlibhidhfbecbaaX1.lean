import Derived.Test.YtlibhidhfbecbaaOnePure
import Derived.Test.YtlibhidhfbecbaaProg
import Derived.Test.YtlibhidhfbecbaaXT
namespace Go.Proofs.Ytlibhidhfbecbaa.LFileOne
open Go Go.Proofs.Ytlibhidhfbecbaa.SL Go.Proofs.Ytlibhidhfbecbaa.SL.W Go.Proofs.Ytlibhidhfbecbaa.SL.D Go.Proofs.Ytlibhidhfbecbaa.SL.I Go.Proofs.Ytlibhidhfbecbaa.XT
set_option linter.unusedVariables false
set_option linter.unusedSimpArgs false
set_option maxRecDepth 100000
set_option maxHeartbeats 40000000
theorem w_at_spec (A : Option Addr) (c : Nat) (xs : List Int) (i : Int) (l_xs : Nat) (hx : In .u8 xs) (e : 0 ≤ i) (hl_xs : xs.length = l_xs) :
 CallsS Try.prog 90 [ς A l_xs c, ι i] [ν .u8 A xs] (fun r D => r = .int .u64 (xs.getD i.toNat 0) ∧ D = []) := by
 subst hl_xs
 refine CallsS.enter hU Try.f90 _ [.tmp 4] 14 Try.func90 rfl (by decide) rfl rfl (by kernel_rfl) fun f W => ?_
 refine RunC.know (p := 0 < xs.length → Option.isSome A = true) (fun _ _ w hs => vw_some hs 0 rfl (by (simp [nums_length]; done))) (fun a => ?_)
 refine RunC.sr ?_
 refine RunR.sl hU [] 1 1 [0, 1, 4] [(0, ς A xs.length c), (1, ι i), (4, .int .u64 0)] 1 ?_
 refine RunR.nn ?_
 refine RunC.seq ?_
 refine RunC.sr ?_
 refine RunR.sl hU [] 4 4 [0, 1, 4, 8] [(0, ς A xs.length c), (1, ι i), (4, .int .u64 0), (8, η (decide (i < (xs.length : Int))))] 4 ?_
 refine RunR.nn ?_
 refine RunC.condp (i < (xs.length : Int)) (by kernel_rfl) (fun b => ?_) (fun b => ?_)
 ·refine RunC.sr ?_
  refine RunR.sil hU [] 3 3 [4, 11] [(4, .int .u64 0), (11, .pointer (elemAt A i 1))] ((True) ∧ (True) ∧ ((0 ≤ i ∧ i < (xs.length : Int)) ∧ Option.isSome A = true) ∧ True) rfl (by kernel_rfl) ⟨trivial, trivial, ⟨by omega, a (by omega)⟩, trivial⟩ ?_
  refine RunR.st (some 12) (.load 5 (.tmp 11)) (Step.load_num hU 0 (ν .u8 A xs) A i .u8 xs rfl (by kernel_rfl) (by kernel_rfl) (tells_vw _ _) (by kernel_rfl) (by omega) ?_)
  have d : 0 ≤ xs.getD ((i).toNat) 0 ∧ xs.getD ((i).toNat) 0 < 256 := hx.at_ _
  refine RunR.sil hU [4] 2 6 [4] [(4, .int .u64 (xs.getD (i).toNat 0))] ((0 ≤ (xs.getD (i).toNat 0) ∧ (xs.getD (i).toNat 0) < 18446744073709551616) ∧ (True) ∧ True) rfl (by kernel_rfl) ⟨(by omega), trivial, trivial⟩ ?_
  refine RunR.nn ?_
  refine RunC.ret ?_
  refine kseq_r ?_
  refine kret_r [.int .u64 (xs.getD (i).toNat 0)] [] [] ⟨rfl, trivial⟩ (by kernel_rfl) rfl ⟨(by rfl), (by rfl)⟩
 refine RunC.ksr ?_
 refine RunR.sl hU [] 1 1 [4] [(4, .int .u64 0)] 1 ?_
 refine RunR.nn ?_
 refine RunC.ret ?_
 refine kret_r [.int .u64 0] [] [] ⟨rfl, trivial⟩ (by kernel_rfl) rfl ⟨(by (rw [getD_ge xs _ (by omega)]; rfl)), (by rfl)⟩
theorem w_get_spec (A : Option Addr) (c : Nat) (xs : List Int) (n : Int) (l_xs : Nat) (hx : In .u8 xs) (hn : xs.length ≤ 140737488351232) (d : 0 ≤ n) (e : n ≤ 8) (hl_xs : xs.length = l_xs) :
 CallsS Try.prog 70 [ς A l_xs c, ι n] [ν .u8 A xs] (fun r D => r = .int .u64 (leN xs n.toNat) ∧ D = []) := by
 subst hl_xs
 refine CallsS.enter hU Try.f70 _ [.tmp 4] 21 Try.func70 rfl (by decide) rfl rfl (by kernel_rfl) fun f W => ?_
 refine RunC.know (p := 0 < xs.length → Option.isSome A = true) (fun _ _ w hs => vw_some hs 0 rfl (by (simp [nums_length]; done))) (fun a => ?_)
 refine RunC.sr ?_
 refine RunR.sl hU [] 1 1 [0, 1, 4] [(0, ς A xs.length c), (1, ι n), (4, .int .u64 0)] 1 ?_
 refine RunR.nx ?_
 refine RunR.sl hU [] 1 1 [0, 1, 4, 5] [(0, ς A xs.length c), (1, ι n), (4, .int .u64 0), (5, .int .u64 0)] 1 ?_
 refine RunR.nn ?_
 refine RunC.seq ?_
 refine RunC.sr ?_
 refine RunR.sl hU [] 2 2 [0, 4, 5, 7, 8] [(0, ς A xs.length c), (4, .int .u64 0), (5, .int .u64 0), (7, ι n), (8, ι 0)] 2 ?_
 refine RunR.nn ?_
 refine RunC.block ?_
 refine RunC.env [0, 4, 5, 7, 8] [(0, ς A xs.length c), (4, .int .u64 0), (5, .int .u64 0), (7, ι n), (8, ι 0)] (by kernel_rfl) ?_
 refine RunC.only [0] [ν .u8 A xs] (by kernel_rfl) ?_
 refine RunC.loop (σ := Nat) (fun n_ t_ D_ => ∃ (i : Int) (v : Int), (0 ≤ i) ∧ (i ≤ n) ∧ (v = leN xs i.toNat) ∧ n_ = ((n - i).toNat : Nat) ∧ t_ = [(0, ς A xs.length c), (4, .int .u64 0), (5, .int .u64 v), (7, ι n), (8, ι i)] ∧ D_ = [ν .u8 A xs]) id _ ⟨0, 0, (by omega), ‹_›, (by rfl), rfl, rfl, rfl⟩ ?_
 rintro n_ _ _ ⟨i, v, hi, hin, hv, rfl, rfl, rfl⟩
 refine RunC.sr ?_
 refine RunR.sl hU [] 1 1 [0, 4, 5, 7, 8, 9] [(0, ς A xs.length c), (4, .int .u64 0), (5, .int .u64 v), (7, ι n), (8, ι i), (9, η (decide (i < n)))] 1 ?_
 refine RunR.nn ?_
 refine RunC.seq ?_
 refine RunC.condp (i < n) (by kernel_rfl) (fun b => ?_) (fun b => ?_)
 ·refine RunC.ks ?_
  refine RunC.seq ?_
  refine RunC.block ?_
  refine RunC.sr ?_
  refine RunR.sl hU [] 2 2 [0, 4, 5, 6, 7, 8] [(0, ς A xs.length c), (4, .int .u64 0), (5, .int .u64 v), (6, ι i), (7, ι n), (8, ι i)] 2 ?_
  refine RunR.nn ?_
  refine RunC.region ?_
  refine RunR.sl hU [] 3 3 [0, 4, 5, 6, 7, 8, 11, 12, 13] [(0, ς A xs.length c), (4, .int .u64 0), (5, .int .u64 v), (6, ι i), (7, ι n), (8, ι i), (11, .int .u64 v), (12, ς A xs.length c), (13, ι i)] 3 ?_
  refine RunR.st (some 14) (.call { callee := .value (.func 90), args := #[.tmp 12, .tmp 13], argTypes := #[22, 3] }) (Step.cl 90 [ς A xs.length c, ι i] [] [ν .u8 A xs] [ν .u8 A xs] (w_at_spec A c xs i xs.length hx ‹_› (by rfl)) [] ((Lend.nil _).tells 0 (ν .u8 A xs) A (nums .u8 xs) (by kernel_rfl) (tells_vw _ _)) ?_)
  rintro _ _ ⟨rfl, rfl⟩
  refine RunR.sil hU [5] 5 9 [0, 4, 5, 7, 8] [(0, ς A xs.length c), (4, .int .u64 0), (5, .int .u64 (bits2 .or .u64 v (IntKind.wrap .u64 ((xs.getD i.toNat 0) * 2 ^ (min (8 * i).toNat 64))))), (7, ι n), (8, ι i)] ((True) ∧ (-9223372036854775808 ≤ (8 * i) ∧ (8 * i) < 9223372036854775808) ∧ (0 ≤ (8 * i)) ∧ (True) ∧ (True) ∧ True) rfl (by kernel_rfl) ⟨trivial, (by omega), (by omega), trivial, trivial, trivial⟩ ?_
  refine RunR.dn ?_
  refine kblock_n ?_
  refine kseq_n ?_
  refine RunC.region ?_
  refine RunR.sil hU [0] 2 2 [0, 4, 5, 7, 8] [(0, ς A xs.length c), (4, .int .u64 0), (5, .int .u64 (bits2 .or .u64 v (IntKind.wrap .u64 ((xs.getD i.toNat 0) * 2 ^ (min (8 * i).toNat 64))))), (7, ι n), (8, ι (i + 1))] ((-9223372036854775808 ≤ (i + 1) ∧ (i + 1) < 9223372036854775808) ∧ (True) ∧ True) rfl (by kernel_rfl) ⟨(by omega), trivial, trivial⟩ ?_
  refine RunR.dn ?_
  refine kloop_n _ [0, 4, 5, 7, 8] [0] [(0, ς A xs.length c), (4, .int .u64 0), (5, .int .u64 (bits2 .or .u64 v (IntKind.wrap .u64 ((xs.getD i.toNat 0) * 2 ^ (min (8 * i).toNat 64))))), (7, ι n), (8, ι (i + 1))] [ν .u8 A xs] (by kernel_rfl) (by kernel_rfl) ?_ ⟨(i + 1), (bits2 .or .u64 v (IntKind.wrap .u64 ((xs.getD i.toNat 0) * 2 ^ (min (8 * i).toNat 64)))), (by omega), ‹_›, (by rw [hv]; exact get_step hx i hi (by omega)), rfl, (by rfl), (by rfl)⟩
  show ((n - (i + 1)).toNat : Nat) < ((n - i).toNat : Nat)
  omega
 refine RunC.exit ?_
 refine kseq_e ?_
 refine kloop_e ?_
 refine kblock_e ?_
 refine kseq_n ?_
 refine RunC.sr ?_
 refine RunR.sl hU [] 2 2 [4] [(4, .int .u64 v)] 2 ?_
 refine RunR.nn ?_
 refine RunC.ret ?_
 refine kret_r [.int .u64 v] [] [] ⟨rfl, trivial⟩ (by kernel_rfl) rfl ⟨(by (rw [show n = i by omega, hv]; rfl)), (by rfl)⟩
theorem w_Get32_spec (A : Option Addr) (c : Nat) (xs : List Int) (l_xs : Nat) (hx : In .u8 xs) (hn : xs.length ≤ 140737488351232) (hl_xs : xs.length = l_xs) :
 CallsS Try.prog 49 [ς A l_xs c] [ν .u8 A xs] (fun r D => ∃ (v : Int), r = .int .u32 v ∧ D = [] ∧ (v = leN xs 4) ∧ (0 ≤ v ∧ v < 4294967296)) := by
 subst hl_xs
 refine CallsS.enter hU Try.f49 _ [.tmp 2] 6 Try.func49 rfl (by decide) rfl rfl (by kernel_rfl) fun b W => ?_
 refine RunC.know (p := 0 < xs.length → Option.isSome A = true) (fun _ _ w hs => vw_some hs 0 rfl (by (simp [nums_length]; done))) (fun a => ?_)
 refine RunC.sr ?_
 refine RunR.sl hU [] 1 1 [0, 2] [(0, ς A xs.length c), (2, .int .u32 0)] 1 ?_
 refine RunR.nx ?_
 refine RunR.sl hU [] 1 1 [2, 3] [(2, .int .u32 0), (3, ς A xs.length c)] 1 ?_
 refine RunR.st (some 4) (.call { callee := .value (.func 70), args := #[.tmp 3, .const (ι 4)], argTypes := #[22, 3] }) (Step.cl 70 [ς A xs.length c, ι 4] [] [ν .u8 A xs] [ν .u8 A xs] (w_get_spec A c xs 4 xs.length hx ‹_› (by omega) (by omega) (by rfl)) [] ((Lend.nil _).tells 0 (ν .u8 A xs) A (nums .u8 xs) (by kernel_rfl) (tells_vw _ _)) ?_)
 rintro _ _ ⟨rfl, rfl⟩
 refine RunR.sl hU [] 2 4 [2] [(2, .int .u32 (IntKind.wrap .u32 (leN xs (4 : Int).toNat)))] 2 ?_
 refine RunR.nn ?_
 refine RunC.ret ?_
 refine kret_r [.int .u32 (IntKind.wrap .u32 (leN xs (4 : Int).toNat))] [] [] ⟨rfl, trivial⟩ (by kernel_rfl) rfl ⟨(IntKind.wrap .u32 (leN xs (4 : Int).toNat)), rfl, rfl, (by exact wrap_u32 _ (leN_bd hx 4).1 (leN_bd hx 4).2), (by have e_ := wrap_u32 _ (leN_bd hx 4).1 (leN_bd hx 4).2; have f_ := leN_bd hx 4; exact ⟨by rw [show (Int.toNat 4) = 4 from rfl, e_]; exact f_.1, by rw [show (Int.toNat 4) = 4 from rfl, e_]; exact f_.2⟩)⟩
theorem w_little_spec (v : Int) (n : Int) (b : fits .u64 v) (k : 0 ≤ n) (f : n ≤ 8) :
 CallsS Try.prog 91 [.int .u64 v, ι n] [] (fun r D => ∃ (A : Option Addr) (c : Nat) (zs : List Int), r = ς A zs.length c ∧ D = [κ 5 .u8 A zs.length c zs] ∧ (zs = leB v n.toNat) ∧ (zs.length = n.toNat) ∧ (In .u8 zs) ∧ (zs.length ≤ c) ∧ (0 < zs.length → Option.isSome A = true)) := by
 refine CallsS.enter hU Try.f91 _ [.tmp 4] 23 Try.func91 rfl (by decide) rfl rfl (by kernel_rfl) fun l W => ?_
 refine RunC.sr ?_
 refine RunR.sl hU [] 1 1 [0, 1, 4] [(0, .int .u64 v), (1, ι n), (4, ς0)] 1 ?_
 refine RunR.nx ?_
 refine RunR.sl hU [] 1 1 [0, 1, 4, 7] [(0, .int .u64 v), (1, ι n), (4, ς0), (7, ι n)] 1 ?_
 refine RunR.st (some 8) (.makeSlice 22 (.tmp 7) (.tmp 7)) (Step.make_nums hU 5 1 .u8 .i64 .i64 (n) rfl rfl (by kernel_rfl) (by kernel_rfl) (by omega) (by omega) (by kernel_rfl) (fun a => ?_))
 have e : (List.replicate ((n).toNat) (0 : Int)).length = (n).toNat := List.length_replicate
 refine RunR.sl hU [] 1 3 [0, 1, 4, 5] [(0, .int .u64 v), (1, ι n), (4, ς0), (5, ς (ad a) ((n).toNat) ((n).toNat))] 1 ?_
 refine RunR.nn ?_
 refine RunC.seq ?_
 refine RunC.sr ?_
 refine RunR.sl hU [] 2 2 [0, 4, 5, 9, 10] [(0, .int .u64 v), (4, ς0), (5, ς (ad a) ((n).toNat) ((n).toNat)), (9, ι n), (10, ι 0)] 2 ?_
 refine RunR.nn ?_
 refine RunC.block ?_
 refine RunC.env [0, 4, 5, 9, 10] [(0, .int .u64 v), (4, ς0), (5, ς (ad a) ((n).toNat) ((n).toNat)), (9, ι n), (10, ι 0)] (by kernel_rfl) ?_
 refine RunC.only [0] [κ 5 .u8 (ad a) ((n).toNat) ((n).toNat) (List.replicate ((n).toNat) (0 : Int))] (by kernel_rfl) ?_
 refine RunC.loop (σ := Nat) (fun n_ t_ D_ => ∃ (i : Int) (zs : List Int) (A : Option Addr) (c : Nat), (0 ≤ i) ∧ (i ≤ n) ∧ (zs = leB v i.toNat ++ List.replicate (n - i).toNat (0 : Int)) ∧ (zs.length = n.toNat) ∧ (n.toNat ≤ c) ∧ (0 < n.toNat → Option.isSome A = true) ∧ n_ = ((n - i).toNat : Nat) ∧ t_ = [(0, .int .u64 v), (4, ς0), (5, ς A n.toNat c), (9, ι n), (10, ι i)] ∧ D_ = [κ 5 .u8 A n.toNat c zs]) id _ ⟨0, (List.replicate ((n).toNat) (0 : Int)), (ad a), ((n).toNat), (by omega), ‹_›, (by simp [leB]), (by simp), (by exact Nat.le_refl _), (fun _ => rfl), rfl, rfl, rfl⟩ ?_
 rintro n_ _ _ ⟨i, zs, A, c, hi, hin, hz, hzl, hc, hA, rfl, rfl, rfl⟩
 refine RunC.sr ?_
 refine RunR.sl hU [] 1 1 [0, 4, 5, 9, 10, 11] [(0, .int .u64 v), (4, ς0), (5, ς A n.toNat c), (9, ι n), (10, ι i), (11, η (decide (i < n)))] 1 ?_
 refine RunR.nn ?_
 refine RunC.seq ?_
 refine RunC.condp (i < n) (by kernel_rfl) (fun d => ?_) (fun d => ?_)
 ·refine RunC.ks ?_
  refine RunC.seq ?_
  refine RunC.block ?_
  refine RunC.sr ?_
  refine RunR.sl hU [] 2 2 [0, 4, 5, 6, 9, 10] [(0, .int .u64 v), (4, ς0), (5, ς A n.toNat c), (6, ι i), (9, ι n), (10, ι i)] 2 ?_
  refine RunR.nn ?_
  refine RunC.region ?_
  have g : 0 ≤ v → 0 ≤ v / 2 ^ (min (8 * i).toNat 64) ∧ v / 2 ^ (min (8 * i).toNat 64) ≤ v := fun h => ⟨Int.ediv_nonneg h (Int.le_of_lt (Int.pow_pos (by decide))), Int.ediv_le_self _ h⟩
  refine RunR.sil hU [4, 5] 8 8 [0, 4, 5, 9, 10, 19, 20] [(0, .int .u64 v), (4, ς0), (5, ς A n.toNat c), (9, ι n), (10, ι i), (19, .int .u8 (IntKind.wrap .u8 (v / 2 ^ (min (8 * i).toNat 64)))), (20, .pointer (elemAt A i 1))] ((True) ∧ (True) ∧ (True) ∧ (True) ∧ (-9223372036854775808 ≤ (8 * i) ∧ (8 * i) < 9223372036854775808) ∧ (0 ≤ (8 * i)) ∧ (True) ∧ ((0 ≤ i ∧ i < (n.toNat : Int)) ∧ Option.isSome A = true) ∧ True) rfl (by kernel_rfl) ⟨trivial, trivial, trivial, trivial, (by omega), (by omega), trivial, ⟨by omega, hA (by omega)⟩, trivial⟩ ?_
  refine RunR.st none (.store 5 (.tmp 20) (.tmp 19)) (Step.store_num hU 0 5 n.toNat c A .u8 zs i (IntKind.wrap .u8 (v / 2 ^ (min (8 * i).toNat 64))) (by kernel_rfl) (by kernel_rfl) (by kernel_rfl) rfl (by omega) ?_)
  have j : (zs.set (i).toNat (IntKind.wrap .u8 (v / 2 ^ (min (8 * i).toNat 64)))).length = zs.length := List.length_set
  refine RunR.dn ?_
  refine kblock_n ?_
  refine kseq_n ?_
  refine RunC.region ?_
  refine RunR.sil hU [0] 2 2 [0, 4, 5, 9, 10] [(0, .int .u64 v), (4, ς0), (5, ς A n.toNat c), (9, ι n), (10, ι (i + 1))] ((-9223372036854775808 ≤ (i + 1) ∧ (i + 1) < 9223372036854775808) ∧ (True) ∧ True) rfl (by kernel_rfl) ⟨(by omega), trivial, trivial⟩ ?_
  refine RunR.dn ?_
  refine kloop_n _ [0, 4, 5, 9, 10] [0] [(0, .int .u64 v), (4, ς0), (5, ς A n.toNat c), (9, ι n), (10, ι (i + 1))] [κ 5 .u8 A n.toNat c (zs.set (i).toNat (IntKind.wrap .u8 (v / 2 ^ (min (8 * i).toNat 64))))] (by kernel_rfl) (by kernel_rfl) ?_ ⟨(i + 1), (zs.set (i).toNat (IntKind.wrap .u8 (v / 2 ^ (min (8 * i).toNat 64)))), A, c, (by omega), ‹_›, (by rw [hz]; exact little_step v n i hi (by omega) f), (by simp [hzl]), (by exact hc), (by exact hA), rfl, (by rfl), (by rfl)⟩
  show ((n - (i + 1)).toNat : Nat) < ((n - i).toNat : Nat)
  omega
 refine RunC.exit ?_
 refine kseq_e ?_
 refine kloop_e ?_
 refine kblock_e ?_
 refine kseq_n ?_
 refine RunC.sr ?_
 refine RunR.sl hU [] 2 2 [4] [(4, ς A n.toNat c)] 2 ?_
 refine RunR.nn ?_
 refine RunC.ret ?_
 refine kret_r [ς A n.toNat c] [0] [κ 5 .u8 A n.toNat c zs] ⟨rfl, trivial⟩ (by kernel_rfl) rfl ⟨A, c, zs, (by (simp only [hzl, retv])), (by (simp only [hzl, retv])), (by rw [hz, show i = n by omega]; simp), (by exact hzl), (by rw [hz]; exact In.append (leB_in _ _) (In.replicate _ _)), (by rw [hzl]; exact hc), (by rw [hzl]; exact hA)⟩
theorem w_Put32_spec (v : Int) (f : fits .u32 v) :
 CallsS Try.prog 76 [.int .u32 v] [] (fun r D => ∃ (A : Option Addr) (c : Nat) (zs : List Int), r = ς A zs.length c ∧ D = [κ 5 .u8 A zs.length c zs] ∧ (zs = leB v 4) ∧ (zs.length = 4) ∧ (In .u8 zs) ∧ (zs.length ≤ c) ∧ (0 < zs.length → Option.isSome A = true)) := by
 refine CallsS.enter hU Try.f76 _ [.tmp 2] 6 Try.func76 rfl (by decide) rfl rfl (by kernel_rfl) fun l W => ?_
 have hvb := f; simp only [fits] at hvb
 refine RunC.sr ?_
 refine RunR.sl hU [] 1 1 [0, 2] [(0, .int .u32 v), (2, ς0)] 1 ?_
 refine RunR.nx ?_
 refine RunR.sil hU [1] 2 2 [2, 4] [(2, ς0), (4, .int .u64 v)] ((True) ∧ (0 ≤ v ∧ v < 18446744073709551616) ∧ True) rfl (by kernel_rfl) ⟨trivial, (by omega), trivial⟩ ?_
 refine RunR.st (some 5) (.call { callee := .value (.func 91), args := #[.tmp 4, .const (ι 4)], argTypes := #[116, 3] }) (Step.cn 91 [.int .u64 v, ι 4] [] [] (w_little_spec v 4 (by (refine ⟨?_, ?_⟩ <;> omega)) (by omega) (by omega)) [] ?_)
 rintro _ _ ⟨d, b, a, rfl, rfl, j, k, g, i, e⟩
 refine RunR.sl hU [] 1 4 [2] [(2, ς d a.length b)] 1 ?_
 refine RunR.nn ?_
 refine RunC.ret ?_
 refine kret_r [ς d a.length b] [0] [κ 5 .u8 d a.length b a] ⟨rfl, trivial⟩ (by kernel_rfl) rfl ⟨d, b, a, rfl, rfl, ‹_›, ‹_›, g, ‹_›, (fun h => e (by exact h))⟩
theorem r_Equal_spec (A : Option Addr) (c : Nat) (xs : List Int) (a : Option Addr) (b : Nat) (ys : List Int) (l_xs : Nat) (l_ys : Nat) (hx : In .u8 xs) (hn : xs.length ≤ 140737488351232) (hy : In .u8 ys) (hm : ys.length ≤ 140737488351232) (hl_xs : xs.length = l_xs) (hl_ys : ys.length = l_ys) :
 CallsS Try.prog 10 [ς A l_xs c, ς a l_ys b] [ν .u8 A xs, ν .u8 a ys] (fun r D => r = η (decide (xs = ys)) ∧ D = []) := by
 subst hl_xs
 subst hl_ys
 refine CallsS.enter hU Try.f10 _ [.tmp 4] 26 Try.func10 rfl (by decide) rfl rfl (by kernel_rfl) fun n W => ?_
 refine RunC.know (p := 0 < xs.length → Option.isSome A = true) (fun _ _ w hs => vw_some hs 0 rfl (by (simp [nums_length]; done))) (fun d => ?_)
 refine RunC.know (p := 0 < ys.length → Option.isSome a = true) (fun _ _ w hs => vw_some hs 1 rfl (by (simp [nums_length]; done))) (fun f => ?_)
 refine RunC.sr ?_
 refine RunR.sl hU [] 1 1 [0, 1, 4] [(0, ς A xs.length c), (1, ς a ys.length b), (4, η false)] 1 ?_
 refine RunR.nn ?_
 refine RunC.seq ?_
 refine RunC.sr ?_
 refine RunR.sl hU [] 5 5 [0, 1, 4, 10] [(0, ς A xs.length c), (1, ς a ys.length b), (4, η false), (10, η (!decide ((xs.length : Int) = (ys.length : Int))))] 5 ?_
 refine RunR.nn ?_
 refine RunC.condn ((xs.length : Int) = (ys.length : Int)) (by kernel_rfl) (fun k => ?_) (fun k => ?_)
 ·refine RunC.sr ?_
  refine RunR.sl hU [] 1 1 [0, 1, 4] [(0, ς A xs.length c), (1, ς a ys.length b), (4, η false)] 1 ?_
  refine RunR.nn ?_
  refine RunC.ret ?_
  refine kseq_r ?_
  refine kret_r [η false] [] [] ⟨rfl, trivial⟩ (by kernel_rfl) rfl ⟨(by (exact congrArg Value.bool (decide_eq_false (fun e => absurd (congrArg List.length e) (by omega))).symm)), (by rfl)⟩
 refine RunC.ks ?_
 refine RunC.seq ?_
 refine RunC.sr ?_
 refine RunR.sl hU [] 1 1 [0, 1, 4, 5] [(0, ς A xs.length c), (1, ς a ys.length b), (4, η false), (5, ι 0)] 1 ?_
 refine RunR.nn ?_
 refine RunC.block ?_
 refine RunC.env [0, 1, 5] [(0, ς A xs.length c), (1, ς a ys.length b), (5, ι 0)] (by kernel_rfl) ?_
 refine RunC.only [0, 0] [ν .u8 A xs, ν .u8 a ys] (by kernel_rfl) ?_
 refine RunC.loop (σ := Nat) (fun n_ t_ D_ => ∃ (i : Int), (0 ≤ i) ∧ (i ≤ (xs.length : Int)) ∧ (xs.take i.toNat = ys.take i.toNat) ∧ n_ = ((xs.length - i).toNat : Nat) ∧ t_ = [(0, ς A xs.length c), (1, ς a ys.length b), (5, ι i)] ∧ D_ = [ν .u8 A xs, ν .u8 a ys]) id _ ⟨0, (by omega), (by omega), (by simp), rfl, rfl, rfl⟩ ?_
 rintro n_ _ _ ⟨i, hi, hin, he, rfl, rfl, rfl⟩
 refine RunC.seq ?_
 refine RunC.sr ?_
 refine RunR.sl hU [] 4 4 [0, 1, 5, 14] [(0, ς A xs.length c), (1, ς a ys.length b), (5, ι i), (14, η (decide (i < (xs.length : Int))))] 4 ?_
 refine RunR.nn ?_
 refine RunC.condp (i < (xs.length : Int)) (by kernel_rfl) (fun g => ?_) (fun g => ?_)
 ·refine RunC.ks ?_
  refine RunC.seq ?_
  refine RunC.block ?_
  refine RunC.seq ?_
  refine RunC.regionU hU 9 [ν .u8 A xs, ν .u8 a ys] [0, 1] [] (bm 9 0) (by kernel_rfl) (by kernel_rfl) (by kernel_rfl) ?_
  refine RunU.sl hU 0 (bm 9 1) 17 (ς A xs.length c) ?_
  refine RunU.sl hU 1 (bm 9 3) 18 (ι i) ?_
  refine RunU.sil hU false 2 (bm 9 7) 19 (.pointer (elemAt A i 1)) ((0 ≤ i ∧ i < (xs.length : Int)) ∧ Option.isSome A = true) (by kernel_rfl) ⟨by omega, d (by omega)⟩ (by kernel_rfl) (by kernel_rfl) (fun _ _ _ h => h) ?_
  refine RunU.rd 3 (bm 9 15) 20 (.load 5 (.tmp 19)) (.int .u8 (xs.getD (i).toNat 0)) [0, 1] (Reads.load_num hU 0 (ν .u8 A xs) A i .u8 xs rfl (by kernel_rfl) (by kernel_rfl) (tells_vw _ _) (by omega)) ?_
  have j : 0 ≤ xs.getD ((i).toNat) 0 ∧ xs.getD ((i).toNat) 0 < 256 := hx.at_ _
  refine RunU.sl hU 4 (bm 9 31) 21 (ς a ys.length b) ?_
  refine RunU.sl hU 5 (bm 9 63) 22 (ι i) ?_
  refine RunU.sil hU false 6 (bm 9 127) 23 (.pointer (elemAt a i 1)) ((0 ≤ i ∧ i < (ys.length : Int)) ∧ Option.isSome a = true) (by kernel_rfl) ⟨by omega, f (by omega)⟩ (by kernel_rfl) (by kernel_rfl) (fun _ _ _ h => h) ?_
  refine RunU.rd 7 (bm 9 255) 24 (.load 5 (.tmp 23)) (.int .u8 (ys.getD (i).toNat 0)) [0, 1] (Reads.load_num hU 1 (ν .u8 a ys) a i .u8 ys rfl (by kernel_rfl) (by kernel_rfl) (tells_vw _ _) (by omega)) ?_
  have l : 0 ≤ ys.getD ((i).toNat) 0 ∧ ys.getD ((i).toNat) 0 < 256 := hy.at_ _
  refine RunU.sl hU 8 (bm 9 511) 25 (η (!decide ((xs.getD (i).toNat 0) = (ys.getD (i).toNat 0)))) ?_
  refine RunU.ev [0, 1, 5, 25] [(0, ς A xs.length c), (1, ς a ys.length b), (5, ι i), (25, η (!decide ((xs.getD (i).toNat 0) = (ys.getD (i).toNat 0))))] ?_
  refine RunU.dn ?_
  refine kseq_n ?_
  refine RunC.condn ((xs.getD (i).toNat 0) = (ys.getD (i).toNat 0)) (by kernel_rfl) (fun m => ?_) (fun m => ?_)
  ·refine RunC.sr ?_
   refine RunR.sl hU [] 1 1 [0, 1, 4, 5] [(0, ς A xs.length c), (1, ς a ys.length b), (4, η false), (5, ι i)] 1 ?_
   refine RunR.nn ?_
   refine RunC.ret ?_
   refine kblock_r ?_
   refine kseq_r ?_
   refine kloop_r ?_
   refine kblock_r ?_
   refine kseq_r ?_
   refine kret_r [η false] [] [] ⟨rfl, trivial⟩ (by kernel_rfl) rfl ⟨(by (exact congrArg Value.bool (decide_eq_false (ne_of_getD ‹_›)).symm)), (by rfl)⟩
  refine RunC.skip ?_
  refine kblock_n ?_
  refine kseq_n ?_
  refine RunC.region ?_
  refine RunR.sil hU [1] 3 3 [0, 1, 5] [(0, ς A xs.length c), (1, ς a ys.length b), (5, ι (i + 1))] ((True) ∧ (-9223372036854775808 ≤ (i + 1) ∧ (i + 1) < 9223372036854775808) ∧ (True) ∧ True) rfl (by kernel_rfl) ⟨trivial, (by omega), trivial, trivial⟩ ?_
  refine RunR.dn ?_
  refine kloop_n _ [0, 1, 5] [0, 0] [(0, ς A xs.length c), (1, ς a ys.length b), (5, ι (i + 1))] [ν .u8 A xs, ν .u8 a ys] (by kernel_rfl) (by kernel_rfl) ?_ ⟨(i + 1), (by omega), ‹_›, (by rw [show (i + 1).toNat = i.toNat + 1 by omega]; exact (take_eq_succ (by omega) (by omega)).2 ⟨he, by omega⟩), rfl, (by rfl), (by rfl)⟩
  show ((xs.length - (i + 1)).toNat : Nat) < ((xs.length - i).toNat : Nat)
  omega
 refine RunC.exit ?_
 refine kseq_e ?_
 refine kloop_e ?_
 refine kblock_e ?_
 refine kseq_n ?_
 refine RunC.sr ?_
 refine RunR.sl hU [] 1 1 [4] [(4, η true)] 1 ?_
 refine RunR.nn ?_
 refine RunC.ret ?_
 refine kret_r [η true] [] [] ⟨rfl, trivial⟩ (by kernel_rfl) rfl ⟨(by (exact congrArg Value.bool (decide_eq_true (eq_of_take (by omega) (by omega) he)).symm)), (by rfl)⟩
theorem b_Equal_spec (b : Option Addr) (d : Nat) (xs : List Int) (a : Option Addr) (c : Nat) (ys : List Int) (l_xs : Nat) (l_ys : Nat) (hIxs : In .u8 xs) (hIys : In .u8 ys) (hl_xs : xs.length = l_xs) (hl_ys : ys.length = l_ys) :
 CallsS Try.prog 63 [ς b l_xs d, ς a l_ys c] [ν .u8 b xs, ν .u8 a ys] (fun r D => r = η (decide (xs = ys)) ∧ D = []) := by
 subst hl_xs
 subst hl_ys
 refine CallsS.enter hU Try.f63 _ [.tmp 4] 10 Try.func63 rfl (by decide) rfl rfl (by kernel_rfl) fun h W => ?_
 refine RunC.know (p := 0 < xs.length → Option.isSome b = true) (fun _ _ w hs => vw_some hs 0 rfl (by (simp [nums_length]; done))) (fun f => ?_)
 refine RunC.know (p := 0 < ys.length → Option.isSome a = true) (fun _ _ w hs => vw_some hs 1 rfl (by (simp [nums_length]; done))) (fun g => ?_)
 refine RunC.sr ?_
 refine RunR.sl hU [] 1 1 [0, 1, 4] [(0, ς b xs.length d), (1, ς a ys.length c), (4, η false)] 1 ?_
 refine RunR.nx ?_
 refine RunR.sl hU [] 1 1 [1, 4, 5] [(1, ς a ys.length c), (4, η false), (5, ς b xs.length d)] 1 ?_
 refine RunR.st (some 6) (.convert 22 9 (.tmp 5)) (Step.bytes_str hU 5 0 (ν .u8 b xs) b xs.length d xs rfl rfl rfl (by kernel_rfl) (by kernel_rfl) (tells_vw _ _) (by rfl) (by kernel_rfl) ?_)
 refine RunR.sl hU [] 1 3 [4, 6, 7] [(4, η false), (6, .string (strOfNums xs)), (7, ς a ys.length c)] 1 ?_
 refine RunR.st (some 8) (.convert 22 9 (.tmp 7)) (Step.bytes_str hU 5 1 (ν .u8 a ys) a ys.length c ys rfl rfl rfl (by kernel_rfl) (by kernel_rfl) (tells_vw _ _) (by rfl) (by kernel_rfl) ?_)
 refine RunR.sl hU [] 2 6 [4] [(4, η (decide ((strOfNums xs) = (strOfNums ys))))] 2 ?_
 refine RunR.nn ?_
 refine RunC.ret ?_
 refine kret_r [η (decide ((strOfNums xs) = (strOfNums ys)))] [] [] ⟨rfl, trivial⟩ (by kernel_rfl) rfl ⟨(by (exact congrArg Value.bool (decide_eq_decide.2 ⟨strOfNums_inj hIxs hIys, fun e => by rw [e]⟩))), (by rfl)⟩
theorem b_HasPrefix_spec (b : Option Addr) (d : Nat) (xs : List Int) (c : Option Addr) (f : Nat) (ys : List Int) (l_xs : Nat) (l_ys : Nat) (hIxs : In .u8 xs) (hIys : In .u8 ys) (hCxs : xs.length ≤ d) (hl_xs : xs.length = l_xs) (hl_ys : ys.length = l_ys) :
 CallsS Try.prog 50 [ς b l_xs d, ς c l_ys f] [ν .u8 b xs, ν .u8 c ys] (fun r D => r = η (decide (xs.take ys.length = ys)) ∧ D = []) := by
 subst hl_xs
 subst hl_ys
 refine CallsS.enter hU Try.f50 _ [.tmp 4] 18 Try.func50 rfl (by decide) rfl rfl (by kernel_rfl) fun m W => ?_
 refine RunC.know (p := 0 < xs.length → Option.isSome b = true) (fun _ _ w hs => vw_some hs 0 rfl (by (simp [nums_length]; done))) (fun k => ?_)
 refine RunC.know (p := 0 < ys.length → Option.isSome c = true) (fun _ _ w hs => vw_some hs 1 rfl (by (simp [nums_length]; done))) (fun l => ?_)
 refine RunC.sr ?_
 refine RunR.sl hU [] 1 1 [0, 1, 4] [(0, ς b xs.length d), (1, ς c ys.length f), (4, η false)] 1 ?_
 refine RunR.nx ?_
 refine RunR.sl hU [] 6 6 [0, 1, 4, 10] [(0, ς b xs.length d), (1, ς c ys.length f), (4, η false), (10, η (decide ((xs.length : Int) ≥ (ys.length : Int))))] 6 ?_
 refine RunR.ev [0, 1, 4, 10] [(0, ς b xs.length d), (1, ς c ys.length f), (4, η false), (10, η (decide ((xs.length : Int) ≥ (ys.length : Int))))] ?_
 by_cases h3 : (xs.length : Int) ≥ (ys.length : Int)
 ·refine RunR.enveq [(0, ς b xs.length d), (1, ς c ys.length f), (4, η false), (10, η true)] (by rw [decide_eq_true h3]; try rfl) ?_
  refine RunR.sil hU [] 4 10 [1, 4, 10, 14] [(1, ς c ys.length f), (4, η false), (10, η true), (14, ς b (((ys.length : Int)).toNat) d)] ((True) ∧ (True) ∧ (True) ∧ (0 ≤ (ys.length : Int) ∧ (ys.length : Int) ≤ (d : Int)) ∧ True) rfl (by kernel_rfl) ⟨trivial, trivial, trivial, (by omega), trivial⟩ ?_
  obtain ⟨a, g⟩ : ∃ z : List Int, z = xs.take (((ys.length : Int)).toNat) := ⟨_, rfl⟩
  have j : a.length = (((ys.length : Int)).toNat) := by rw [g, List.length_take]; omega
  have h : Tells (ν .u8 b xs) (b) (nums .u8 a) := by rw [g]; exact tells_take_nums (tells_vw _ _) _
  refine RunR.ev [1, 4, 10, 14] [(1, ς c ys.length f), (4, η false), (10, η true), (14, ς b (((ys.length : Int)).toNat) d)] ?_
  refine RunR.enveq [(1, ς c ys.length f), (4, η false), (10, η true), (14, ς b a.length d)] (by rw [j]) ?_
  have i : In .u8 a := by rw [g]; exact hIxs.take _
  refine RunR.sl hU [] 1 11 [4, 10, 14, 15] [(4, η false), (10, η true), (14, ς b a.length d), (15, ς c ys.length f)] 1 ?_
  refine RunR.st (some 16) (.call { callee := .value (.func 63), args := #[.tmp 14, .tmp 15], argTypes := #[22, 22] }) (Step.cl 63 [ς b a.length d, ς c ys.length f] [] [ν .u8 b a, ν .u8 c ys] [ν .u8 b xs, ν .u8 c ys] (b_Equal_spec b d a c f ys a.length ys.length i hIys (by rfl) (by rfl)) [] (((Lend.nil _).tells 1 (ν .u8 c ys) c (nums .u8 ys) (by kernel_rfl) (tells_vw _ _)).tells 0 (ν .u8 b xs) b (nums .u8 a) (by kernel_rfl) (h)) ?_)
  rintro _ _ ⟨rfl, rfl⟩
  refine RunR.sl hU [] 2 14 [4] [(4, η (decide (a = ys)))] 2 ?_
  refine RunR.nn ?_
  refine RunC.ret ?_
  refine kret_r [η (decide (a = ys))] [] [] ⟨rfl, trivial⟩ (by kernel_rfl) rfl ⟨(by (simp only [g]; rfl)), (by rfl)⟩
 refine RunR.enveq [(0, ς b xs.length d), (1, ς c ys.length f), (4, η false), (10, η false)] (by rw [decide_eq_false h3]; try rfl) ?_
 refine RunR.sl hU [] 8 14 [4] [(4, η false)] 2 ?_
 refine RunR.nn ?_
 refine RunC.ret ?_
 refine kret_r [η false] [] [] ⟨rfl, trivial⟩ (by kernel_rfl) rfl ⟨(by (exact congrArg Value.bool (decide_eq_false (fun e => absurd (congrArg List.length e) (by rw [List.length_take]; omega))).symm)), (by rfl)⟩
end Go.Proofs.Ytlibhidhfbecbaa.LFileOne
