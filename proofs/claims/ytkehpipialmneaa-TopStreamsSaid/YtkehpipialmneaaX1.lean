/- What these functions compute: a contract for each, walked through its code. -/
import Derived.Test.YtkehpipialmneaaSLzn
import Derived.Test.YtkehpipialmneaaBPure
import Derived.Test.YtkehpipialmneaaProg
namespace Go.Proofs.Ytkehpipialmneaa.X1
open Go Go.Proofs.Ytkehpipialmneaa.SL Go.Proofs.Ytkehpipialmneaa.SL.W Go.Proofs.Ytkehpipialmneaa.SL.C Go.Proofs.Ytkehpipialmneaa.SL.H Go.Proofs.Ytkehpipialmneaa.SL.M Go.Proofs.Ytkehpipialmneaa.SL.Y Go.Proofs.Ytkehpipialmneaa.SL.A Go.Proofs.Ytkehpipialmneaa.SL.B
set_option linter.unusedVariables false
set_option linter.unusedSimpArgs false
set_option maxRecDepth 100000
set_option maxHeartbeats 40000000
def U : Tab where
  und := [(3, .int .i64), (5, .int .u8), (24, .slice 5), (53, .int .u32), (73, .int .u64)]
  fld := []
  sz := [(3, 1), (5, 1), (24, 1), (53, 1), (73, 1)]
  ti := [(3, (1, 8, .int .i64 0)), (5, (1, 1, .int .u8 0)), (24, (1, 24, .slice none 0 0)), (53, (1, 4, .int .u32 0)), (73, (1, 8, .int .u64 0))]
  bld := []

theorem hU : U.OK Try.prog where
  und := by
    intro p hp
    simp only [U, List.mem_cons, List.not_mem_nil, or_false] at hp
    rcases hp with rfl | rfl | rfl | rfl | rfl
    · exact Try.underlying3
    · exact Try.underlying5
    · exact Try.underlying24
    · exact Try.underlying53
    · exact Try.underlying73
  fld := by
    intro p hp; cases hp
  sz := by
    intro p hp
    simp only [U, List.mem_cons, List.not_mem_nil, or_false] at hp
    rcases hp with rfl | rfl | rfl | rfl | rfl
    · exact ⟨Try.prog.types[3]!, by kernel_rfl, by kernel_rfl⟩
    · exact ⟨Try.prog.types[5]!, by kernel_rfl, by kernel_rfl⟩
    · exact ⟨Try.prog.types[24]!, by kernel_rfl, by kernel_rfl⟩
    · exact ⟨Try.prog.types[53]!, by kernel_rfl, by kernel_rfl⟩
    · exact ⟨Try.prog.types[73]!, by kernel_rfl, by kernel_rfl⟩
  ti := by
    intro p hp
    simp only [U, List.mem_cons, List.not_mem_nil, or_false] at hp
    rcases hp with rfl | rfl | rfl | rfl | rfl
    · exact ⟨Try.prog.types[3]!, by kernel_rfl, by kernel_rfl, by kernel_rfl, by kernel_rfl⟩
    · exact ⟨Try.prog.types[5]!, by kernel_rfl, by kernel_rfl, by kernel_rfl, by kernel_rfl⟩
    · exact ⟨Try.prog.types[24]!, by kernel_rfl, by kernel_rfl, by kernel_rfl, by kernel_rfl⟩
    · exact ⟨Try.prog.types[53]!, by kernel_rfl, by kernel_rfl, by kernel_rfl, by kernel_rfl⟩
    · exact ⟨Try.prog.types[73]!, by kernel_rfl, by kernel_rfl, by kernel_rfl, by kernel_rfl⟩
  bld := by
    intro p hp; cases hp
  mixed := by kernel_rfl

theorem w_at_spec (A : Option Addr) (c : Nat) (xs : List Int) (i : Int) (l_xs : Nat) (hx : In .u8 xs) (h0 : 0 ≤ i) (hl_xs : xs.length = l_xs) :
    CallsS Try.prog 95 [.slice A l_xs c, .int .i64 i] [vw A (nums .u8 xs)] (fun r D => r = .int .u64 (xs.getD i.toNat 0) ∧ D = []) := by
  subst hl_xs
  refine CallsS.enter hU Try.f95 _ [.tmp 4] 14 Try.func95 rfl (by decide) rfl rfl (by kernel_rfl) fun w0 W => ?_
  refine RunC.know (p := 0 < xs.length → Option.isSome A = true) (fun _ _ w hs => vw_some hs 0 rfl (by (simp [nums_length]; done))) (fun hA1 => ?_)
  refine RunC.sr ?_
  refine RunR.sl hU [] 1 1 [0, 1, 4] [(0, .slice A xs.length c), (1, .int .i64 i), (4, .int .u64 0)] 1 ?_
  refine RunR.nn ?_
  refine RunC.seq ?_
  refine RunC.sr ?_
  refine RunR.sl hU [] 4 4 [0, 1, 4, 8] [(0, .slice A xs.length c), (1, .int .i64 i), (4, .int .u64 0), (8, .bool (decide (i < ((xs.length : Nat) : Int))))] 4 ?_
  refine RunR.nn ?_
  refine RunC.condp (i < ((xs.length : Nat) : Int)) (by kernel_rfl) (fun h2 => ?_) (fun h2 => ?_)
  · skip
    refine RunC.sr ?_
    refine RunR.sil hU [] 3 3 [4, 11] [(4, .int .u64 0), (11, .pointer (elemAt A i 1))] ((True) ∧ (True) ∧ ((0 ≤ i ∧ i < ((xs.length : Nat) : Int)) ∧ Option.isSome A = true) ∧ True) rfl (by kernel_rfl) ⟨trivial, trivial, ⟨by omega, hA1 (by omega)⟩, trivial⟩ ?_
    refine RunR.st (some 12) (.load 5 (.tmp 11)) (Step.load_num hU 0 (vw A (nums .u8 xs)) A i .u8 xs rfl (by kernel_rfl) (by kernel_rfl) (tells_vw _ _) (by kernel_rfl) (by omega) ?_)
    have hb3 : 0 ≤ xs.getD ((i).toNat) 0 ∧ xs.getD ((i).toNat) 0 < 256 := hx.at_ _
    refine RunR.sil hU [4] 2 6 [4] [(4, .int .u64 (xs.getD (i).toNat 0))] ((0 ≤ (xs.getD (i).toNat 0) ∧ (xs.getD (i).toNat 0) < 18446744073709551616) ∧ (True) ∧ True) rfl (by kernel_rfl) ⟨(by omega), trivial, trivial⟩ ?_
    refine RunR.nn ?_
    refine RunC.ret ?_
    refine kseq_r ?_
    refine kret_r [.int .u64 (xs.getD (i).toNat 0)] [] [] ⟨rfl, trivial⟩ (by kernel_rfl) rfl ⟨(by rfl), (by rfl)⟩
  · skip
    refine RunC.ksr ?_
    refine RunR.sl hU [] 1 1 [4] [(4, .int .u64 0)] 1 ?_
    refine RunR.nn ?_
    refine RunC.ret ?_
    refine kret_r [.int .u64 0] [] [] ⟨rfl, trivial⟩ (by kernel_rfl) rfl ⟨(by (rw [getD_ge xs _ (by omega)]; rfl)), (by rfl)⟩

theorem w_get_spec (A : Option Addr) (c : Nat) (xs : List Int) (n : Int) (l_xs : Nat) (hx : In .u8 xs) (hn : xs.length ≤ 140737488351232) (h0 : 0 ≤ n) (h8 : n ≤ 8) (hl_xs : xs.length = l_xs) :
    CallsS Try.prog 88 [.slice A l_xs c, .int .i64 n] [vw A (nums .u8 xs)] (fun r D => r = .int .u64 (leN xs n.toNat) ∧ D = []) := by
  subst hl_xs
  refine CallsS.enter hU Try.f88 _ [.tmp 4] 21 Try.func88 rfl (by decide) rfl rfl (by kernel_rfl) fun w0 W => ?_
  refine RunC.know (p := 0 < xs.length → Option.isSome A = true) (fun _ _ w hs => vw_some hs 0 rfl (by (simp [nums_length]; done))) (fun hA1 => ?_)
  refine RunC.sr ?_
  refine RunR.sl hU [] 1 1 [0, 1, 4] [(0, .slice A xs.length c), (1, .int .i64 n), (4, .int .u64 0)] 1 ?_
  refine RunR.nx ?_
  refine RunR.sl hU [] 1 1 [0, 1, 4, 5] [(0, .slice A xs.length c), (1, .int .i64 n), (4, .int .u64 0), (5, .int .u64 0)] 1 ?_
  refine RunR.nn ?_
  refine RunC.seq ?_
  refine RunC.sr ?_
  refine RunR.sl hU [] 2 2 [0, 4, 5, 7, 8] [(0, .slice A xs.length c), (4, .int .u64 0), (5, .int .u64 0), (7, .int .i64 n), (8, .int .i64 0)] 2 ?_
  refine RunR.nn ?_
  refine RunC.block ?_
  refine RunC.env [0, 4, 5, 7, 8] [(0, .slice A xs.length c), (4, .int .u64 0), (5, .int .u64 0), (7, .int .i64 n), (8, .int .i64 0)] (by kernel_rfl) ?_
  refine RunC.only [0] [vw A (nums .u8 xs)] (by kernel_rfl) ?_
  refine RunC.loop (σ := Nat) (fun n_ t_ D_ => ∃ (i : Int) (v : Int), (0 ≤ i) ∧ (i ≤ n) ∧ (v = leN xs i.toNat) ∧ n_ = ((n - i).toNat : Nat) ∧ t_ = [(0, .slice A xs.length c), (4, .int .u64 0), (5, .int .u64 v), (7, .int .i64 n), (8, .int .i64 i)] ∧ D_ = [vw A (nums .u8 xs)]) id _ ⟨0, 0, (by omega), (by assumption), (by rfl), rfl, rfl, rfl⟩ ?_
  rintro n_ _ _ ⟨i, v, hi, hin, hv, rfl, rfl, rfl⟩
  refine RunC.sr ?_
  refine RunR.sl hU [] 1 1 [0, 4, 5, 7, 8, 9] [(0, .slice A xs.length c), (4, .int .u64 0), (5, .int .u64 v), (7, .int .i64 n), (8, .int .i64 i), (9, .bool (decide (i < n)))] 1 ?_
  refine RunR.nn ?_
  refine RunC.seq ?_
  refine RunC.condp (i < n) (by kernel_rfl) (fun h2 => ?_) (fun h2 => ?_)
  · skip
    refine RunC.ks ?_
    refine RunC.seq ?_
    refine RunC.block ?_
    refine RunC.sr ?_
    refine RunR.sl hU [] 2 2 [0, 4, 5, 6, 7, 8] [(0, .slice A xs.length c), (4, .int .u64 0), (5, .int .u64 v), (6, .int .i64 i), (7, .int .i64 n), (8, .int .i64 i)] 2 ?_
    refine RunR.nn ?_
    refine RunC.region ?_
    refine RunR.sl hU [] 3 3 [0, 4, 5, 6, 7, 8, 11, 12, 13] [(0, .slice A xs.length c), (4, .int .u64 0), (5, .int .u64 v), (6, .int .i64 i), (7, .int .i64 n), (8, .int .i64 i), (11, .int .u64 v), (12, .slice A xs.length c), (13, .int .i64 i)] 3 ?_
    refine RunR.st (some 14) (.call { callee := .value (.func 95), args := #[.tmp 12, .tmp 13], argTypes := #[24, 3] }) (Step.cl 95 [.slice A xs.length c, .int .i64 i] [] [vw A (nums .u8 xs)] [vw A (nums .u8 xs)] (w_at_spec A c xs i xs.length hx (by assumption) (by rfl)) [] ((Lend.nil _).tells 0 (vw A (nums .u8 xs)) A (nums .u8 xs) (by kernel_rfl) (tells_vw _ _)) ?_)
    rintro _ _ ⟨rfl, rfl⟩
    refine RunR.sil hU [5] 5 9 [0, 4, 5, 7, 8] [(0, .slice A xs.length c), (4, .int .u64 0), (5, .int .u64 (bits2 .or .u64 v (IntKind.wrap .u64 ((xs.getD i.toNat 0) * 2 ^ (min (8 * i).toNat 64))))), (7, .int .i64 n), (8, .int .i64 i)] ((True) ∧ (-9223372036854775808 ≤ (8 * i) ∧ (8 * i) < 9223372036854775808) ∧ (0 ≤ (8 * i)) ∧ (True) ∧ (True) ∧ True) rfl (by kernel_rfl) ⟨trivial, (by omega), (by omega), trivial, trivial, trivial⟩ ?_
    refine RunR.dn ?_
    refine kblock_n ?_
    refine kseq_n ?_
    refine RunC.region ?_
    refine RunR.sil hU [0] 2 2 [0, 4, 5, 7, 8] [(0, .slice A xs.length c), (4, .int .u64 0), (5, .int .u64 (bits2 .or .u64 v (IntKind.wrap .u64 ((xs.getD i.toNat 0) * 2 ^ (min (8 * i).toNat 64))))), (7, .int .i64 n), (8, .int .i64 (i + 1))] ((-9223372036854775808 ≤ (i + 1) ∧ (i + 1) < 9223372036854775808) ∧ (True) ∧ True) rfl (by kernel_rfl) ⟨(by omega), trivial, trivial⟩ ?_
    refine RunR.dn ?_
    refine kloop_n _ [0, 4, 5, 7, 8] [0] [(0, .slice A xs.length c), (4, .int .u64 0), (5, .int .u64 (bits2 .or .u64 v (IntKind.wrap .u64 ((xs.getD i.toNat 0) * 2 ^ (min (8 * i).toNat 64))))), (7, .int .i64 n), (8, .int .i64 (i + 1))] [vw A (nums .u8 xs)] (by kernel_rfl) (by kernel_rfl) ?_ ⟨(i + 1), (bits2 .or .u64 v (IntKind.wrap .u64 ((xs.getD i.toNat 0) * 2 ^ (min (8 * i).toNat 64)))), (by omega), (by assumption), (by rw [hv]; exact get_step hx i hi (by omega)), rfl, (by rfl), (by rfl)⟩
    show ((n - (i + 1)).toNat : Nat) < ((n - i).toNat : Nat)
    omega
  · skip
    refine RunC.exit ?_
    refine kseq_e ?_
    refine kloop_e ?_
    refine kblock_e ?_
    refine kseq_n ?_
    refine RunC.sr ?_
    refine RunR.sl hU [] 2 2 [4] [(4, .int .u64 v)] 2 ?_
    refine RunR.nn ?_
    refine RunC.ret ?_
    refine kret_r [.int .u64 v] [] [] ⟨rfl, trivial⟩ (by kernel_rfl) rfl ⟨(by (rw [show n = i by omega, hv]; rfl)), (by rfl)⟩

theorem w_getBig_spec (A : Option Addr) (c : Nat) (xs : List Int) (n : Int) (l_xs : Nat) (hx : In .u8 xs) (hn : xs.length ≤ 140737488351232) (h0 : 0 ≤ n) (h8 : n ≤ 8) (hl_xs : xs.length = l_xs) :
    CallsS Try.prog 76 [.slice A l_xs c, .int .i64 n] [vw A (nums .u8 xs)] (fun r D => r = .int .u64 (beN xs n.toNat) ∧ D = []) := by
  subst hl_xs
  refine CallsS.enter hU Try.f76 _ [.tmp 4] 19 Try.func76 rfl (by decide) rfl rfl (by kernel_rfl) fun w0 W => ?_
  refine RunC.know (p := 0 < xs.length → Option.isSome A = true) (fun _ _ w hs => vw_some hs 0 rfl (by (simp [nums_length]; done))) (fun hA1 => ?_)
  refine RunC.sr ?_
  refine RunR.sl hU [] 1 1 [0, 1, 4] [(0, .slice A xs.length c), (1, .int .i64 n), (4, .int .u64 0)] 1 ?_
  refine RunR.nx ?_
  refine RunR.sl hU [] 1 1 [0, 1, 4, 5] [(0, .slice A xs.length c), (1, .int .i64 n), (4, .int .u64 0), (5, .int .u64 0)] 1 ?_
  refine RunR.nn ?_
  refine RunC.seq ?_
  refine RunC.sr ?_
  refine RunR.sl hU [] 2 2 [0, 4, 5, 7, 8] [(0, .slice A xs.length c), (4, .int .u64 0), (5, .int .u64 0), (7, .int .i64 n), (8, .int .i64 0)] 2 ?_
  refine RunR.nn ?_
  refine RunC.block ?_
  refine RunC.env [0, 4, 5, 7, 8] [(0, .slice A xs.length c), (4, .int .u64 0), (5, .int .u64 0), (7, .int .i64 n), (8, .int .i64 0)] (by kernel_rfl) ?_
  refine RunC.only [0] [vw A (nums .u8 xs)] (by kernel_rfl) ?_
  refine RunC.loop (σ := Nat) (fun n_ t_ D_ => ∃ (i : Int) (v : Int), (0 ≤ i) ∧ (i ≤ n) ∧ (v = beN xs i.toNat) ∧ n_ = ((n - i).toNat : Nat) ∧ t_ = [(0, .slice A xs.length c), (4, .int .u64 0), (5, .int .u64 v), (7, .int .i64 n), (8, .int .i64 i)] ∧ D_ = [vw A (nums .u8 xs)]) id _ ⟨0, 0, (by omega), (by assumption), (by rfl), rfl, rfl, rfl⟩ ?_
  rintro n_ _ _ ⟨i, v, hi, hin, hv, rfl, rfl, rfl⟩
  refine RunC.sr ?_
  refine RunR.sl hU [] 1 1 [0, 4, 5, 7, 8, 9] [(0, .slice A xs.length c), (4, .int .u64 0), (5, .int .u64 v), (7, .int .i64 n), (8, .int .i64 i), (9, .bool (decide (i < n)))] 1 ?_
  refine RunR.nn ?_
  refine RunC.seq ?_
  refine RunC.condp (i < n) (by kernel_rfl) (fun h2 => ?_) (fun h2 => ?_)
  · skip
    refine RunC.ks ?_
    refine RunC.seq ?_
    refine RunC.block ?_
    refine RunC.sr ?_
    refine RunR.sl hU [] 2 2 [0, 4, 5, 6, 7, 8] [(0, .slice A xs.length c), (4, .int .u64 0), (5, .int .u64 v), (6, .int .i64 i), (7, .int .i64 n), (8, .int .i64 i)] 2 ?_
    refine RunR.nn ?_
    refine RunC.region ?_
    refine RunR.sil hU [] 4 4 [0, 4, 5, 7, 8, 12, 13, 14] [(0, .slice A xs.length c), (4, .int .u64 0), (5, .int .u64 v), (7, .int .i64 n), (8, .int .i64 i), (12, .int .u64 (IntKind.wrap .u64 (v * 2 ^ 8))), (13, .slice A xs.length c), (14, .int .i64 i)] ((True) ∧ (0 ≤ (8 : Int)) ∧ (True) ∧ (True) ∧ True) rfl (by kernel_rfl) ⟨trivial, (by omega), trivial, trivial, trivial⟩ ?_
    refine RunR.st (some 15) (.call { callee := .value (.func 95), args := #[.tmp 13, .tmp 14], argTypes := #[24, 3] }) (Step.cl 95 [.slice A xs.length c, .int .i64 i] [] [vw A (nums .u8 xs)] [vw A (nums .u8 xs)] (w_at_spec A c xs i xs.length hx (by assumption) (by rfl)) [] ((Lend.nil _).tells 0 (vw A (nums .u8 xs)) A (nums .u8 xs) (by kernel_rfl) (tells_vw _ _)) ?_)
    rintro _ _ ⟨rfl, rfl⟩
    refine RunR.sl hU [] 2 7 [0, 4, 5, 7, 8] [(0, .slice A xs.length c), (4, .int .u64 0), (5, .int .u64 (bits2 .or .u64 (IntKind.wrap .u64 (v * 2 ^ 8)) (xs.getD i.toNat 0))), (7, .int .i64 n), (8, .int .i64 i)] 2 ?_
    refine RunR.dn ?_
    refine kblock_n ?_
    refine kseq_n ?_
    refine RunC.region ?_
    refine RunR.sil hU [0] 2 2 [0, 4, 5, 7, 8] [(0, .slice A xs.length c), (4, .int .u64 0), (5, .int .u64 (bits2 .or .u64 (IntKind.wrap .u64 (v * 2 ^ 8)) (xs.getD i.toNat 0))), (7, .int .i64 n), (8, .int .i64 (i + 1))] ((-9223372036854775808 ≤ (i + 1) ∧ (i + 1) < 9223372036854775808) ∧ (True) ∧ True) rfl (by kernel_rfl) ⟨(by omega), trivial, trivial⟩ ?_
    refine RunR.dn ?_
    refine kloop_n _ [0, 4, 5, 7, 8] [0] [(0, .slice A xs.length c), (4, .int .u64 0), (5, .int .u64 (bits2 .or .u64 (IntKind.wrap .u64 (v * 2 ^ 8)) (xs.getD i.toNat 0))), (7, .int .i64 n), (8, .int .i64 (i + 1))] [vw A (nums .u8 xs)] (by kernel_rfl) (by kernel_rfl) ?_ ⟨(i + 1), (bits2 .or .u64 (IntKind.wrap .u64 (v * 2 ^ 8)) (xs.getD i.toNat 0)), (by omega), (by assumption), (by rw [hv]; exact getBig_step hx i hi (by omega)), rfl, (by rfl), (by rfl)⟩
    show ((n - (i + 1)).toNat : Nat) < ((n - i).toNat : Nat)
    omega
  · skip
    refine RunC.exit ?_
    refine kseq_e ?_
    refine kloop_e ?_
    refine kblock_e ?_
    refine kseq_n ?_
    refine RunC.sr ?_
    refine RunR.sl hU [] 2 2 [4] [(4, .int .u64 v)] 2 ?_
    refine RunR.nn ?_
    refine RunC.ret ?_
    refine kret_r [.int .u64 v] [] [] ⟨rfl, trivial⟩ (by kernel_rfl) rfl ⟨(by (rw [show n = i by omega, hv]; rfl)), (by rfl)⟩

theorem w_Get32_spec (A : Option Addr) (c : Nat) (xs : List Int) (l_xs : Nat) (hx : In .u8 xs) (hn : xs.length ≤ 140737488351232) (hl_xs : xs.length = l_xs) :
    CallsS Try.prog 89 [.slice A l_xs c] [vw A (nums .u8 xs)] (fun r D => r = .int .u32 (leN xs 4) ∧ D = []) := by
  subst hl_xs
  refine CallsS.enter hU Try.f89 _ [.tmp 2] 6 Try.func89 rfl (by decide) rfl rfl (by kernel_rfl) fun w0 W => ?_
  refine RunC.know (p := 0 < xs.length → Option.isSome A = true) (fun _ _ w hs => vw_some hs 0 rfl (by (simp [nums_length]; done))) (fun hA1 => ?_)
  refine RunC.sr ?_
  refine RunR.sl hU [] 1 1 [0, 2] [(0, .slice A xs.length c), (2, .int .u32 0)] 1 ?_
  refine RunR.nx ?_
  refine RunR.sl hU [] 1 1 [2, 3] [(2, .int .u32 0), (3, .slice A xs.length c)] 1 ?_
  refine RunR.st (some 4) (.call { callee := .value (.func 88), args := #[.tmp 3, .const (.int .i64 4)], argTypes := #[24, 3] }) (Step.cl 88 [.slice A xs.length c, .int .i64 4] [] [vw A (nums .u8 xs)] [vw A (nums .u8 xs)] (w_get_spec A c xs 4 xs.length hx (by assumption) (by omega) (by omega) (by rfl)) [] ((Lend.nil _).tells 0 (vw A (nums .u8 xs)) A (nums .u8 xs) (by kernel_rfl) (tells_vw _ _)) ?_)
  rintro _ _ ⟨rfl, rfl⟩
  refine RunR.sl hU [] 2 4 [2] [(2, .int .u32 (IntKind.wrap .u32 (leN xs (4 : Int).toNat)))] 2 ?_
  refine RunR.nn ?_
  refine RunC.ret ?_
  refine kret_r [.int .u32 (IntKind.wrap .u32 (leN xs (4 : Int).toNat))] [] [] ⟨rfl, trivial⟩ (by kernel_rfl) rfl ⟨(by (exact congrArg (Value.int .u32) (wrap_u32 _ (leN_bd hx 4).1 (leN_bd hx 4).2))), (by rfl)⟩

theorem w_Get64_spec (A : Option Addr) (c : Nat) (xs : List Int) (l_xs : Nat) (hx : In .u8 xs) (hn : xs.length ≤ 140737488351232) (hl_xs : xs.length = l_xs) :
    CallsS Try.prog 59 [.slice A l_xs c] [vw A (nums .u8 xs)] (fun r D => r = .int .u64 (leN xs 8) ∧ D = []) := by
  subst hl_xs
  refine CallsS.enter hU Try.f59 _ [.tmp 2] 5 Try.func59 rfl (by decide) rfl rfl (by kernel_rfl) fun w0 W => ?_
  refine RunC.know (p := 0 < xs.length → Option.isSome A = true) (fun _ _ w hs => vw_some hs 0 rfl (by (simp [nums_length]; done))) (fun hA1 => ?_)
  refine RunC.sr ?_
  refine RunR.sl hU [] 1 1 [0, 2] [(0, .slice A xs.length c), (2, .int .u64 0)] 1 ?_
  refine RunR.nx ?_
  refine RunR.sl hU [] 1 1 [2, 3] [(2, .int .u64 0), (3, .slice A xs.length c)] 1 ?_
  refine RunR.st (some 4) (.call { callee := .value (.func 88), args := #[.tmp 3, .const (.int .i64 8)], argTypes := #[24, 3] }) (Step.cl 88 [.slice A xs.length c, .int .i64 8] [] [vw A (nums .u8 xs)] [vw A (nums .u8 xs)] (w_get_spec A c xs 8 xs.length hx (by assumption) (by omega) (by omega) (by rfl)) [] ((Lend.nil _).tells 0 (vw A (nums .u8 xs)) A (nums .u8 xs) (by kernel_rfl) (tells_vw _ _)) ?_)
  rintro _ _ ⟨rfl, rfl⟩
  refine RunR.sl hU [] 1 3 [2] [(2, .int .u64 (leN xs (8 : Int).toNat))] 1 ?_
  refine RunR.nn ?_
  refine RunC.ret ?_
  refine kret_r [.int .u64 (leN xs (8 : Int).toNat)] [] [] ⟨rfl, trivial⟩ (by kernel_rfl) rfl ⟨rfl, rfl⟩

theorem w_GetBig32_spec (A : Option Addr) (c : Nat) (xs : List Int) (l_xs : Nat) (hx : In .u8 xs) (hn : xs.length ≤ 140737488351232) (hl_xs : xs.length = l_xs) :
    CallsS Try.prog 52 [.slice A l_xs c] [vw A (nums .u8 xs)] (fun r D => r = .int .u32 (beN xs 4) ∧ D = []) := by
  subst hl_xs
  refine CallsS.enter hU Try.f52 _ [.tmp 2] 6 Try.func52 rfl (by decide) rfl rfl (by kernel_rfl) fun w0 W => ?_
  refine RunC.know (p := 0 < xs.length → Option.isSome A = true) (fun _ _ w hs => vw_some hs 0 rfl (by (simp [nums_length]; done))) (fun hA1 => ?_)
  refine RunC.sr ?_
  refine RunR.sl hU [] 1 1 [0, 2] [(0, .slice A xs.length c), (2, .int .u32 0)] 1 ?_
  refine RunR.nx ?_
  refine RunR.sl hU [] 1 1 [2, 3] [(2, .int .u32 0), (3, .slice A xs.length c)] 1 ?_
  refine RunR.st (some 4) (.call { callee := .value (.func 76), args := #[.tmp 3, .const (.int .i64 4)], argTypes := #[24, 3] }) (Step.cl 76 [.slice A xs.length c, .int .i64 4] [] [vw A (nums .u8 xs)] [vw A (nums .u8 xs)] (w_getBig_spec A c xs 4 xs.length hx (by assumption) (by omega) (by omega) (by rfl)) [] ((Lend.nil _).tells 0 (vw A (nums .u8 xs)) A (nums .u8 xs) (by kernel_rfl) (tells_vw _ _)) ?_)
  rintro _ _ ⟨rfl, rfl⟩
  refine RunR.sl hU [] 2 4 [2] [(2, .int .u32 (IntKind.wrap .u32 (beN xs (4 : Int).toNat)))] 2 ?_
  refine RunR.nn ?_
  refine RunC.ret ?_
  refine kret_r [.int .u32 (IntKind.wrap .u32 (beN xs (4 : Int).toNat))] [] [] ⟨rfl, trivial⟩ (by kernel_rfl) rfl ⟨(by (exact congrArg (Value.int .u32) (wrap_u32 _ (beN_bd hx 4).1 (beN_bd hx 4).2))), (by rfl)⟩

theorem w_GetBig64_spec (A : Option Addr) (c : Nat) (xs : List Int) (l_xs : Nat) (hx : In .u8 xs) (hn : xs.length ≤ 140737488351232) (hl_xs : xs.length = l_xs) :
    CallsS Try.prog 121 [.slice A l_xs c] [vw A (nums .u8 xs)] (fun r D => r = .int .u64 (beN xs 8) ∧ D = []) := by
  subst hl_xs
  refine CallsS.enter hU Try.f121 _ [.tmp 2] 5 Try.func121 rfl (by decide) rfl rfl (by kernel_rfl) fun w0 W => ?_
  refine RunC.know (p := 0 < xs.length → Option.isSome A = true) (fun _ _ w hs => vw_some hs 0 rfl (by (simp [nums_length]; done))) (fun hA1 => ?_)
  refine RunC.sr ?_
  refine RunR.sl hU [] 1 1 [0, 2] [(0, .slice A xs.length c), (2, .int .u64 0)] 1 ?_
  refine RunR.nx ?_
  refine RunR.sl hU [] 1 1 [2, 3] [(2, .int .u64 0), (3, .slice A xs.length c)] 1 ?_
  refine RunR.st (some 4) (.call { callee := .value (.func 76), args := #[.tmp 3, .const (.int .i64 8)], argTypes := #[24, 3] }) (Step.cl 76 [.slice A xs.length c, .int .i64 8] [] [vw A (nums .u8 xs)] [vw A (nums .u8 xs)] (w_getBig_spec A c xs 8 xs.length hx (by assumption) (by omega) (by omega) (by rfl)) [] ((Lend.nil _).tells 0 (vw A (nums .u8 xs)) A (nums .u8 xs) (by kernel_rfl) (tells_vw _ _)) ?_)
  rintro _ _ ⟨rfl, rfl⟩
  refine RunR.sl hU [] 1 3 [2] [(2, .int .u64 (beN xs (8 : Int).toNat))] 1 ?_
  refine RunR.nn ?_
  refine RunC.ret ?_
  refine kret_r [.int .u64 (beN xs (8 : Int).toNat)] [] [] ⟨rfl, trivial⟩ (by kernel_rfl) rfl ⟨rfl, rfl⟩

theorem w_little_spec (v : Int) (n : Int) (hv0 : fits .u64 v) (h0 : 0 ≤ n) (h8 : n ≤ 8) :
    CallsS Try.prog 64 [.int .u64 v, .int .i64 n] [] (fun r D => ∃ (A : Option Addr) (c : Nat) (zs : List Int), r = .slice A zs.length c ∧ D = [row 5 1 (.slice A zs.length c) zs.length (nums .u8 zs)] ∧ (zs = leB v n.toNat) ∧ (zs.length = n.toNat) ∧ (In .u8 zs) ∧ (zs.length ≤ c) ∧ (0 < zs.length → Option.isSome A = true)) := by
  refine CallsS.enter hU Try.f64 _ [.tmp 4] 23 Try.func64 rfl (by decide) rfl rfl (by kernel_rfl) fun w0 W => ?_
  refine RunC.sr ?_
  refine RunR.sl hU [] 1 1 [0, 1, 4] [(0, .int .u64 v), (1, .int .i64 n), (4, .slice none 0 0)] 1 ?_
  refine RunR.nx ?_
  refine RunR.sl hU [] 1 1 [0, 1, 4, 7] [(0, .int .u64 v), (1, .int .i64 n), (4, .slice none 0 0), (7, .int .i64 n)] 1 ?_
  refine RunR.st (some 8) (.makeSlice 24 (.tmp 7) (.tmp 7)) (Step.make_nums hU 5 1 .u8 .i64 .i64 (n) rfl rfl (by kernel_rfl) (by kernel_rfl) (by omega) (by omega) (by kernel_rfl) (fun b1 => ?_))
  have hl2 : (List.replicate ((n).toNat) (0 : Int)).length = (n).toNat := List.length_replicate
  refine RunR.sl hU [] 1 3 [0, 1, 4, 5] [(0, .int .u64 v), (1, .int .i64 n), (4, .slice none 0 0), (5, .slice (some ⟨b1, 0, none⟩) ((n).toNat) ((n).toNat))] 1 ?_
  refine RunR.nn ?_
  refine RunC.seq ?_
  refine RunC.sr ?_
  refine RunR.sl hU [] 2 2 [0, 4, 5, 9, 10] [(0, .int .u64 v), (4, .slice none 0 0), (5, .slice (some ⟨b1, 0, none⟩) ((n).toNat) ((n).toNat)), (9, .int .i64 n), (10, .int .i64 0)] 2 ?_
  refine RunR.nn ?_
  refine RunC.block ?_
  refine RunC.env [0, 4, 5, 9, 10] [(0, .int .u64 v), (4, .slice none 0 0), (5, .slice (some ⟨b1, 0, none⟩) ((n).toNat) ((n).toNat)), (9, .int .i64 n), (10, .int .i64 0)] (by kernel_rfl) ?_
  refine RunC.only [0] [row 5 1 (.slice (some ⟨b1, 0, none⟩) ((n).toNat) ((n).toNat)) ((n).toNat) (nums .u8 (List.replicate ((n).toNat) (0 : Int)))] (by kernel_rfl) ?_
  refine RunC.loop (σ := Nat) (fun n_ t_ D_ => ∃ (i : Int) (zs : List Int) (A : Option Addr) (c : Nat), (0 ≤ i) ∧ (i ≤ n) ∧ (zs = leB v i.toNat ++ List.replicate (n - i).toNat (0 : Int)) ∧ (zs.length = n.toNat) ∧ (n.toNat ≤ c) ∧ (0 < n.toNat → Option.isSome A = true) ∧ n_ = ((n - i).toNat : Nat) ∧ t_ = [(0, .int .u64 v), (4, .slice none 0 0), (5, .slice A n.toNat c), (9, .int .i64 n), (10, .int .i64 i)] ∧ D_ = [row 5 1 (.slice A n.toNat c) n.toNat (nums .u8 zs)]) id _ ⟨0, (List.replicate ((n).toNat) (0 : Int)), (some ⟨b1, 0, none⟩), ((n).toNat), (by omega), (by assumption), (by simp [leB]), (by simp), (by exact Nat.le_refl _), (fun _ => rfl), rfl, rfl, rfl⟩ ?_
  rintro n_ _ _ ⟨i, zs, A, c, hi, hin, hz, hzl, hc, hA, rfl, rfl, rfl⟩
  refine RunC.sr ?_
  refine RunR.sl hU [] 1 1 [0, 4, 5, 9, 10, 11] [(0, .int .u64 v), (4, .slice none 0 0), (5, .slice A n.toNat c), (9, .int .i64 n), (10, .int .i64 i), (11, .bool (decide (i < n)))] 1 ?_
  refine RunR.nn ?_
  refine RunC.seq ?_
  refine RunC.condp (i < n) (by kernel_rfl) (fun h3 => ?_) (fun h3 => ?_)
  · skip
    refine RunC.ks ?_
    refine RunC.seq ?_
    refine RunC.block ?_
    refine RunC.sr ?_
    refine RunR.sl hU [] 2 2 [0, 4, 5, 6, 9, 10] [(0, .int .u64 v), (4, .slice none 0 0), (5, .slice A n.toNat c), (6, .int .i64 i), (9, .int .i64 n), (10, .int .i64 i)] 2 ?_
    refine RunR.nn ?_
    refine RunC.region ?_
    have hm4 : 0 ≤ v → 0 ≤ v / 2 ^ (min (8 * i).toNat 64) ∧ v / 2 ^ (min (8 * i).toNat 64) ≤ v := fun h => ⟨Int.ediv_nonneg h (Int.le_of_lt (Int.pow_pos (by decide))), Int.ediv_le_self _ h⟩
    refine RunR.sil hU [4, 5] 8 8 [0, 4, 5, 9, 10, 19, 20] [(0, .int .u64 v), (4, .slice none 0 0), (5, .slice A n.toNat c), (9, .int .i64 n), (10, .int .i64 i), (19, .int .u8 (IntKind.wrap .u8 (v / 2 ^ (min (8 * i).toNat 64)))), (20, .pointer (elemAt A i 1))] ((True) ∧ (True) ∧ (True) ∧ (True) ∧ (-9223372036854775808 ≤ (8 * i) ∧ (8 * i) < 9223372036854775808) ∧ (0 ≤ (8 * i)) ∧ (True) ∧ ((0 ≤ i ∧ i < ((n.toNat : Nat) : Int)) ∧ Option.isSome A = true) ∧ True) rfl (by kernel_rfl) ⟨trivial, trivial, trivial, trivial, (by omega), (by omega), trivial, ⟨by omega, hA (by omega)⟩, trivial⟩ ?_
    refine RunR.st none (.store 5 (.tmp 20) (.tmp 19)) (Step.store_num hU 0 5 n.toNat c A .u8 zs i (IntKind.wrap .u8 (v / 2 ^ (min (8 * i).toNat 64))) (by kernel_rfl) (by kernel_rfl) (by kernel_rfl) rfl (by omega) ?_)
    have hl5 : (zs.set (i).toNat (IntKind.wrap .u8 (v / 2 ^ (min (8 * i).toNat 64)))).length = zs.length := List.length_set
    refine RunR.dn ?_
    refine kblock_n ?_
    refine kseq_n ?_
    refine RunC.region ?_
    refine RunR.sil hU [0] 2 2 [0, 4, 5, 9, 10] [(0, .int .u64 v), (4, .slice none 0 0), (5, .slice A n.toNat c), (9, .int .i64 n), (10, .int .i64 (i + 1))] ((-9223372036854775808 ≤ (i + 1) ∧ (i + 1) < 9223372036854775808) ∧ (True) ∧ True) rfl (by kernel_rfl) ⟨(by omega), trivial, trivial⟩ ?_
    refine RunR.dn ?_
    refine kloop_n _ [0, 4, 5, 9, 10] [0] [(0, .int .u64 v), (4, .slice none 0 0), (5, .slice A n.toNat c), (9, .int .i64 n), (10, .int .i64 (i + 1))] [row 5 1 (.slice A n.toNat c) n.toNat (nums .u8 (zs.set (i).toNat (IntKind.wrap .u8 (v / 2 ^ (min (8 * i).toNat 64)))))] (by kernel_rfl) (by kernel_rfl) ?_ ⟨(i + 1), (zs.set (i).toNat (IntKind.wrap .u8 (v / 2 ^ (min (8 * i).toNat 64)))), A, c, (by omega), (by assumption), (by rw [hz]; exact little_step v n i hi (by omega) h8), (by simp [hzl]), (by exact hc), (by exact hA), rfl, (by rfl), (by rfl)⟩
    show ((n - (i + 1)).toNat : Nat) < ((n - i).toNat : Nat)
    omega
  · skip
    refine RunC.exit ?_
    refine kseq_e ?_
    refine kloop_e ?_
    refine kblock_e ?_
    refine kseq_n ?_
    refine RunC.sr ?_
    refine RunR.sl hU [] 2 2 [4] [(4, .slice A n.toNat c)] 2 ?_
    refine RunR.nn ?_
    refine RunC.ret ?_
    refine kret_r [.slice A n.toNat c] [0] [row 5 1 (.slice A n.toNat c) n.toNat (nums .u8 zs)] ⟨rfl, trivial⟩ (by kernel_rfl) rfl ⟨A, c, zs, (by (simp only [hzl, retv])), (by (simp only [hzl, retv])), (by rw [hz, show i = n by omega]; simp), (by exact hzl), (by rw [hz]; exact In.append (leB_in _ _) (In.replicate _ _)), (by rw [hzl]; exact hc), (by rw [hzl]; exact hA)⟩

theorem w_big_spec (v : Int) (n : Int) (hv0 : fits .u64 v) (h0 : 0 ≤ n) (h8 : n ≤ 8) :
    CallsS Try.prog 73 [.int .u64 v, .int .i64 n] [] (fun r D => ∃ (A : Option Addr) (c : Nat) (zs : List Int), r = .slice A zs.length c ∧ D = [row 5 1 (.slice A zs.length c) zs.length (nums .u8 zs)] ∧ (zs = (leB v n.toNat).reverse) ∧ (zs.length = n.toNat) ∧ (In .u8 zs) ∧ (zs.length ≤ c) ∧ (0 < zs.length → Option.isSome A = true)) := by
  refine CallsS.enter hU Try.f73 _ [.tmp 4] 26 Try.func73 rfl (by decide) rfl rfl (by kernel_rfl) fun w0 W => ?_
  refine RunC.sr ?_
  refine RunR.sl hU [] 1 1 [0, 1, 4] [(0, .int .u64 v), (1, .int .i64 n), (4, .slice none 0 0)] 1 ?_
  refine RunR.nx ?_
  refine RunR.sl hU [] 1 1 [0, 1, 4, 7] [(0, .int .u64 v), (1, .int .i64 n), (4, .slice none 0 0), (7, .int .i64 n)] 1 ?_
  refine RunR.st (some 8) (.makeSlice 24 (.tmp 7) (.tmp 7)) (Step.make_nums hU 5 1 .u8 .i64 .i64 (n) rfl rfl (by kernel_rfl) (by kernel_rfl) (by omega) (by omega) (by kernel_rfl) (fun b1 => ?_))
  have hl2 : (List.replicate ((n).toNat) (0 : Int)).length = (n).toNat := List.length_replicate
  refine RunR.sl hU [] 1 3 [0, 1, 4, 5] [(0, .int .u64 v), (1, .int .i64 n), (4, .slice none 0 0), (5, .slice (some ⟨b1, 0, none⟩) ((n).toNat) ((n).toNat))] 1 ?_
  refine RunR.nn ?_
  refine RunC.seq ?_
  refine RunC.sr ?_
  refine RunR.sl hU [] 2 2 [0, 1, 4, 5, 9, 10] [(0, .int .u64 v), (1, .int .i64 n), (4, .slice none 0 0), (5, .slice (some ⟨b1, 0, none⟩) ((n).toNat) ((n).toNat)), (9, .int .i64 n), (10, .int .i64 0)] 2 ?_
  refine RunR.nn ?_
  refine RunC.block ?_
  refine RunC.env [0, 1, 4, 5, 9, 10] [(0, .int .u64 v), (1, .int .i64 n), (4, .slice none 0 0), (5, .slice (some ⟨b1, 0, none⟩) ((n).toNat) ((n).toNat)), (9, .int .i64 n), (10, .int .i64 0)] (by kernel_rfl) ?_
  refine RunC.only [0] [row 5 1 (.slice (some ⟨b1, 0, none⟩) ((n).toNat) ((n).toNat)) ((n).toNat) (nums .u8 (List.replicate ((n).toNat) (0 : Int)))] (by kernel_rfl) ?_
  refine RunC.loop (σ := Nat) (fun n_ t_ D_ => ∃ (i : Int) (zs : List Int) (A : Option Addr) (c : Nat), (0 ≤ i) ∧ (i ≤ n) ∧ (zs = List.replicate (n - i).toNat (0 : Int) ++ (leB v i.toNat).reverse) ∧ (zs.length = n.toNat) ∧ (n.toNat ≤ c) ∧ (0 < n.toNat → Option.isSome A = true) ∧ n_ = ((n - i).toNat : Nat) ∧ t_ = [(0, .int .u64 v), (1, .int .i64 n), (4, .slice none 0 0), (5, .slice A n.toNat c), (9, .int .i64 n), (10, .int .i64 i)] ∧ D_ = [row 5 1 (.slice A n.toNat c) n.toNat (nums .u8 zs)]) id _ ⟨0, (List.replicate ((n).toNat) (0 : Int)), (some ⟨b1, 0, none⟩), ((n).toNat), (by omega), (by assumption), (by simp [leB]), (by simp), (by exact Nat.le_refl _), (fun _ => rfl), rfl, rfl, rfl⟩ ?_
  rintro n_ _ _ ⟨i, zs, A, c, hi, hin, hz, hzl, hc, hA, rfl, rfl, rfl⟩
  refine RunC.sr ?_
  refine RunR.sl hU [] 1 1 [0, 1, 4, 5, 9, 10, 11] [(0, .int .u64 v), (1, .int .i64 n), (4, .slice none 0 0), (5, .slice A n.toNat c), (9, .int .i64 n), (10, .int .i64 i), (11, .bool (decide (i < n)))] 1 ?_
  refine RunR.nn ?_
  refine RunC.seq ?_
  refine RunC.condp (i < n) (by kernel_rfl) (fun h3 => ?_) (fun h3 => ?_)
  · skip
    refine RunC.ks ?_
    refine RunC.seq ?_
    refine RunC.block ?_
    refine RunC.sr ?_
    refine RunR.sl hU [] 2 2 [0, 1, 4, 5, 6, 9, 10] [(0, .int .u64 v), (1, .int .i64 n), (4, .slice none 0 0), (5, .slice A n.toNat c), (6, .int .i64 i), (9, .int .i64 n), (10, .int .i64 i)] 2 ?_
    refine RunR.nn ?_
    refine RunC.region ?_
    have hm4 : 0 ≤ v → 0 ≤ v / 2 ^ (min (8 * i).toNat 64) ∧ v / 2 ^ (min (8 * i).toNat 64) ≤ v := fun h => ⟨Int.ediv_nonneg h (Int.le_of_lt (Int.pow_pos (by decide))), Int.ediv_le_self _ h⟩
    refine RunR.sil hU [2, 4, 7, 8] 11 11 [0, 1, 4, 5, 9, 10, 22, 23] [(0, .int .u64 v), (1, .int .i64 n), (4, .slice none 0 0), (5, .slice A n.toNat c), (9, .int .i64 n), (10, .int .i64 i), (22, .int .u8 (IntKind.wrap .u8 (v / 2 ^ (min (8 * i).toNat 64)))), (23, .pointer (elemAt A ((n - 1) - i) 1))] ((True) ∧ (True) ∧ (-9223372036854775808 ≤ (n - 1) ∧ (n - 1) < 9223372036854775808) ∧ (True) ∧ (-9223372036854775808 ≤ ((n - 1) - i) ∧ ((n - 1) - i) < 9223372036854775808) ∧ (True) ∧ (True) ∧ (-9223372036854775808 ≤ (8 * i) ∧ (8 * i) < 9223372036854775808) ∧ (0 ≤ (8 * i)) ∧ (True) ∧ ((0 ≤ ((n - 1) - i) ∧ ((n - 1) - i) < ((n.toNat : Nat) : Int)) ∧ Option.isSome A = true) ∧ True) rfl (by kernel_rfl) ⟨trivial, trivial, (by omega), trivial, (by omega), trivial, trivial, (by omega), (by omega), trivial, ⟨by omega, hA (by omega)⟩, trivial⟩ ?_
    refine RunR.st none (.store 5 (.tmp 23) (.tmp 22)) (Step.store_num hU 0 5 n.toNat c A .u8 zs ((n - 1) - i) (IntKind.wrap .u8 (v / 2 ^ (min (8 * i).toNat 64))) (by kernel_rfl) (by kernel_rfl) (by kernel_rfl) rfl (by omega) ?_)
    have hl5 : (zs.set ((n - 1) - i).toNat (IntKind.wrap .u8 (v / 2 ^ (min (8 * i).toNat 64)))).length = zs.length := List.length_set
    refine RunR.dn ?_
    refine kblock_n ?_
    refine kseq_n ?_
    refine RunC.region ?_
    refine RunR.sil hU [0] 2 2 [0, 1, 4, 5, 9, 10] [(0, .int .u64 v), (1, .int .i64 n), (4, .slice none 0 0), (5, .slice A n.toNat c), (9, .int .i64 n), (10, .int .i64 (i + 1))] ((-9223372036854775808 ≤ (i + 1) ∧ (i + 1) < 9223372036854775808) ∧ (True) ∧ True) rfl (by kernel_rfl) ⟨(by omega), trivial, trivial⟩ ?_
    refine RunR.dn ?_
    refine kloop_n _ [0, 1, 4, 5, 9, 10] [0] [(0, .int .u64 v), (1, .int .i64 n), (4, .slice none 0 0), (5, .slice A n.toNat c), (9, .int .i64 n), (10, .int .i64 (i + 1))] [row 5 1 (.slice A n.toNat c) n.toNat (nums .u8 (zs.set ((n - 1) - i).toNat (IntKind.wrap .u8 (v / 2 ^ (min (8 * i).toNat 64)))))] (by kernel_rfl) (by kernel_rfl) ?_ ⟨(i + 1), (zs.set ((n - 1) - i).toNat (IntKind.wrap .u8 (v / 2 ^ (min (8 * i).toNat 64)))), A, c, (by omega), (by assumption), (by rw [hz]; exact big_step v n i hi (by omega) h8), (by simp [hzl]), (by exact hc), (by exact hA), rfl, (by rfl), (by rfl)⟩
    show ((n - (i + 1)).toNat : Nat) < ((n - i).toNat : Nat)
    omega
  · skip
    refine RunC.exit ?_
    refine kseq_e ?_
    refine kloop_e ?_
    refine kblock_e ?_
    refine kseq_n ?_
    refine RunC.sr ?_
    refine RunR.sl hU [] 2 2 [4] [(4, .slice A n.toNat c)] 2 ?_
    refine RunR.nn ?_
    refine RunC.ret ?_
    refine kret_r [.slice A n.toNat c] [0] [row 5 1 (.slice A n.toNat c) n.toNat (nums .u8 zs)] ⟨rfl, trivial⟩ (by kernel_rfl) rfl ⟨A, c, zs, (by (simp only [hzl, retv])), (by (simp only [hzl, retv])), (by rw [hz, show i = n by omega]; simp), (by exact hzl), (by rw [hz]; exact In.append (In.replicate _ _) (In.rev (leB_in _ _))), (by rw [hzl]; exact hc), (by rw [hzl]; exact hA)⟩

theorem w_Put32_spec (v : Int) (hv0 : fits .u32 v) :
    CallsS Try.prog 63 [.int .u32 v] [] (fun r D => ∃ (A : Option Addr) (c : Nat) (zs : List Int), r = .slice A zs.length c ∧ D = [row 5 1 (.slice A zs.length c) zs.length (nums .u8 zs)] ∧ (zs = leB v 4) ∧ (zs.length = 4) ∧ (In .u8 zs) ∧ (zs.length ≤ c) ∧ (0 < zs.length → Option.isSome A = true)) := by
  refine CallsS.enter hU Try.f63 _ [.tmp 2] 6 Try.func63 rfl (by decide) rfl rfl (by kernel_rfl) fun w0 W => ?_
  have hvb := hv0; simp only [fits] at hvb
  refine RunC.sr ?_
  refine RunR.sl hU [] 1 1 [0, 2] [(0, .int .u32 v), (2, .slice none 0 0)] 1 ?_
  refine RunR.nx ?_
  refine RunR.sil hU [1] 2 2 [2, 4] [(2, .slice none 0 0), (4, .int .u64 v)] ((True) ∧ (0 ≤ v ∧ v < 18446744073709551616) ∧ True) rfl (by kernel_rfl) ⟨trivial, (by omega), trivial⟩ ?_
  refine RunR.st (some 5) (.call { callee := .value (.func 64), args := #[.tmp 4, .const (.int .i64 4)], argTypes := #[73, 3] }) (Step.cn 64 [.int .u64 v, .int .i64 4] [] [] (w_little_spec v 4 (by (refine ⟨?_, ?_⟩ <;> omega)) (by omega) (by omega)) [] ?_)
  rintro _ _ ⟨Aq1, cq2, zs3, rfl, rfl, hp4, hp5, hp6, hp7, hp8⟩
  refine RunR.sl hU [] 1 4 [2] [(2, .slice Aq1 zs3.length cq2)] 1 ?_
  refine RunR.nn ?_
  refine RunC.ret ?_
  refine kret_r [.slice Aq1 zs3.length cq2] [0] [row 5 1 (.slice Aq1 zs3.length cq2) zs3.length (nums .u8 zs3)] ⟨rfl, trivial⟩ (by kernel_rfl) rfl ⟨Aq1, cq2, zs3, rfl, rfl, (by assumption), (by assumption), hp6, (by assumption), (fun h => hp8 (by exact h))⟩

theorem w_Put64_spec (v : Int) (hv0 : fits .u64 v) :
    CallsS Try.prog 44 [.int .u64 v] [] (fun r D => ∃ (A : Option Addr) (c : Nat) (zs : List Int), r = .slice A zs.length c ∧ D = [row 5 1 (.slice A zs.length c) zs.length (nums .u8 zs)] ∧ (zs = leB v 8) ∧ (zs.length = 8) ∧ (In .u8 zs) ∧ (zs.length ≤ c) ∧ (0 < zs.length → Option.isSome A = true)) := by
  refine CallsS.enter hU Try.f44 _ [.tmp 2] 5 Try.func44 rfl (by decide) rfl rfl (by kernel_rfl) fun w0 W => ?_
  have hvb := hv0; simp only [fits] at hvb
  refine RunC.sr ?_
  refine RunR.sl hU [] 1 1 [0, 2] [(0, .int .u64 v), (2, .slice none 0 0)] 1 ?_
  refine RunR.nx ?_
  refine RunR.sl hU [] 1 1 [2, 3] [(2, .slice none 0 0), (3, .int .u64 v)] 1 ?_
  refine RunR.st (some 4) (.call { callee := .value (.func 64), args := #[.tmp 3, .const (.int .i64 8)], argTypes := #[73, 3] }) (Step.cn 64 [.int .u64 v, .int .i64 8] [] [] (w_little_spec v 8 (by assumption) (by omega) (by omega)) [] ?_)
  rintro _ _ ⟨Aq1, cq2, zs3, rfl, rfl, hp4, hp5, hp6, hp7, hp8⟩
  refine RunR.sl hU [] 1 3 [2] [(2, .slice Aq1 zs3.length cq2)] 1 ?_
  refine RunR.nn ?_
  refine RunC.ret ?_
  refine kret_r [.slice Aq1 zs3.length cq2] [0] [row 5 1 (.slice Aq1 zs3.length cq2) zs3.length (nums .u8 zs3)] ⟨rfl, trivial⟩ (by kernel_rfl) rfl ⟨Aq1, cq2, zs3, rfl, rfl, (by assumption), (by assumption), hp6, (by assumption), (fun h => hp8 (by exact h))⟩

theorem w_Big32_spec (v : Int) (hv0 : fits .u32 v) :
    CallsS Try.prog 49 [.int .u32 v] [] (fun r D => ∃ (A : Option Addr) (c : Nat) (zs : List Int), r = .slice A zs.length c ∧ D = [row 5 1 (.slice A zs.length c) zs.length (nums .u8 zs)] ∧ (zs = (leB v 4).reverse) ∧ (zs.length = 4) ∧ (In .u8 zs) ∧ (zs.length ≤ c) ∧ (0 < zs.length → Option.isSome A = true)) := by
  refine CallsS.enter hU Try.f49 _ [.tmp 2] 6 Try.func49 rfl (by decide) rfl rfl (by kernel_rfl) fun w0 W => ?_
  have hvb := hv0; simp only [fits] at hvb
  refine RunC.sr ?_
  refine RunR.sl hU [] 1 1 [0, 2] [(0, .int .u32 v), (2, .slice none 0 0)] 1 ?_
  refine RunR.nx ?_
  refine RunR.sil hU [1] 2 2 [2, 4] [(2, .slice none 0 0), (4, .int .u64 v)] ((True) ∧ (0 ≤ v ∧ v < 18446744073709551616) ∧ True) rfl (by kernel_rfl) ⟨trivial, (by omega), trivial⟩ ?_
  refine RunR.st (some 5) (.call { callee := .value (.func 73), args := #[.tmp 4, .const (.int .i64 4)], argTypes := #[73, 3] }) (Step.cn 73 [.int .u64 v, .int .i64 4] [] [] (w_big_spec v 4 (by (refine ⟨?_, ?_⟩ <;> omega)) (by omega) (by omega)) [] ?_)
  rintro _ _ ⟨Aq1, cq2, zs3, rfl, rfl, hp4, hp5, hp6, hp7, hp8⟩
  refine RunR.sl hU [] 1 4 [2] [(2, .slice Aq1 zs3.length cq2)] 1 ?_
  refine RunR.nn ?_
  refine RunC.ret ?_
  refine kret_r [.slice Aq1 zs3.length cq2] [0] [row 5 1 (.slice Aq1 zs3.length cq2) zs3.length (nums .u8 zs3)] ⟨rfl, trivial⟩ (by kernel_rfl) rfl ⟨Aq1, cq2, zs3, rfl, rfl, (by assumption), (by assumption), hp6, (by assumption), (fun h => hp8 (by exact h))⟩

theorem w_Big64_spec (v : Int) (hv0 : fits .u64 v) :
    CallsS Try.prog 100 [.int .u64 v] [] (fun r D => ∃ (A : Option Addr) (c : Nat) (zs : List Int), r = .slice A zs.length c ∧ D = [row 5 1 (.slice A zs.length c) zs.length (nums .u8 zs)] ∧ (zs = (leB v 8).reverse) ∧ (zs.length = 8) ∧ (In .u8 zs) ∧ (zs.length ≤ c) ∧ (0 < zs.length → Option.isSome A = true)) := by
  refine CallsS.enter hU Try.f100 _ [.tmp 2] 5 Try.func100 rfl (by decide) rfl rfl (by kernel_rfl) fun w0 W => ?_
  have hvb := hv0; simp only [fits] at hvb
  refine RunC.sr ?_
  refine RunR.sl hU [] 1 1 [0, 2] [(0, .int .u64 v), (2, .slice none 0 0)] 1 ?_
  refine RunR.nx ?_
  refine RunR.sl hU [] 1 1 [2, 3] [(2, .slice none 0 0), (3, .int .u64 v)] 1 ?_
  refine RunR.st (some 4) (.call { callee := .value (.func 73), args := #[.tmp 3, .const (.int .i64 8)], argTypes := #[73, 3] }) (Step.cn 73 [.int .u64 v, .int .i64 8] [] [] (w_big_spec v 8 (by assumption) (by omega) (by omega)) [] ?_)
  rintro _ _ ⟨Aq1, cq2, zs3, rfl, rfl, hp4, hp5, hp6, hp7, hp8⟩
  refine RunR.sl hU [] 1 3 [2] [(2, .slice Aq1 zs3.length cq2)] 1 ?_
  refine RunR.nn ?_
  refine RunC.ret ?_
  refine kret_r [.slice Aq1 zs3.length cq2] [0] [row 5 1 (.slice Aq1 zs3.length cq2) zs3.length (nums .u8 zs3)] ⟨rfl, trivial⟩ (by kernel_rfl) rfl ⟨Aq1, cq2, zs3, rfl, rfl, (by assumption), (by assumption), hp6, (by assumption), (fun h => hp8 (by exact h))⟩

theorem r_Equal_spec (A : Option Addr) (c : Nat) (xs : List Int) (A2 : Option Addr) (c2 : Nat) (ys : List Int) (l_xs : Nat) (l_ys : Nat) (hx : In .u8 xs) (hn : xs.length ≤ 140737488351232) (hy : In .u8 ys) (hm : ys.length ≤ 140737488351232) (hl_xs : xs.length = l_xs) (hl_ys : ys.length = l_ys) :
    CallsS Try.prog 10 [.slice A l_xs c, .slice A2 l_ys c2] [vw A (nums .u8 xs), vw A2 (nums .u8 ys)] (fun r D => r = .bool (decide (xs = ys)) ∧ D = []) := by
  subst hl_xs
  subst hl_ys
  refine CallsS.enter hU Try.f10 _ [.tmp 4] 26 Try.func10 rfl (by decide) rfl rfl (by kernel_rfl) fun w0 W => ?_
  refine RunC.know (p := 0 < xs.length → Option.isSome A = true) (fun _ _ w hs => vw_some hs 0 rfl (by (simp [nums_length]; done))) (fun hA1 => ?_)
  refine RunC.know (p := 0 < ys.length → Option.isSome A2 = true) (fun _ _ w hs => vw_some hs 1 rfl (by (simp [nums_length]; done))) (fun hA2 => ?_)
  refine RunC.sr ?_
  refine RunR.sl hU [] 1 1 [0, 1, 4] [(0, .slice A xs.length c), (1, .slice A2 ys.length c2), (4, .bool false)] 1 ?_
  refine RunR.nn ?_
  refine RunC.seq ?_
  refine RunC.sr ?_
  refine RunR.sl hU [] 5 5 [0, 1, 4, 10] [(0, .slice A xs.length c), (1, .slice A2 ys.length c2), (4, .bool false), (10, .bool (!decide (((xs.length : Nat) : Int) = ((ys.length : Nat) : Int))))] 5 ?_
  refine RunR.nn ?_
  refine RunC.condn (((xs.length : Nat) : Int) = ((ys.length : Nat) : Int)) (by kernel_rfl) (fun h3 => ?_) (fun h3 => ?_)
  · skip
    refine RunC.sr ?_
    refine RunR.sl hU [] 1 1 [0, 1, 4] [(0, .slice A xs.length c), (1, .slice A2 ys.length c2), (4, .bool false)] 1 ?_
    refine RunR.nn ?_
    refine RunC.ret ?_
    refine kseq_r ?_
    refine kret_r [.bool false] [] [] ⟨rfl, trivial⟩ (by kernel_rfl) rfl ⟨(by (exact congrArg Value.bool (decide_eq_false (fun e => absurd (congrArg List.length e) (by omega))).symm)), (by rfl)⟩
  · skip
    refine RunC.ks ?_
    refine RunC.seq ?_
    refine RunC.sr ?_
    refine RunR.sl hU [] 1 1 [0, 1, 4, 5] [(0, .slice A xs.length c), (1, .slice A2 ys.length c2), (4, .bool false), (5, .int .i64 0)] 1 ?_
    refine RunR.nn ?_
    refine RunC.block ?_
    refine RunC.env [0, 1, 5] [(0, .slice A xs.length c), (1, .slice A2 ys.length c2), (5, .int .i64 0)] (by kernel_rfl) ?_
    refine RunC.only [0, 0] [vw A (nums .u8 xs), vw A2 (nums .u8 ys)] (by kernel_rfl) ?_
    refine RunC.loop (σ := Nat) (fun n_ t_ D_ => ∃ (i : Int), (0 ≤ i) ∧ (i ≤ (xs.length : Int)) ∧ (xs.take i.toNat = ys.take i.toNat) ∧ n_ = ((xs.length - i).toNat : Nat) ∧ t_ = [(0, .slice A xs.length c), (1, .slice A2 ys.length c2), (5, .int .i64 i)] ∧ D_ = [vw A (nums .u8 xs), vw A2 (nums .u8 ys)]) id _ ⟨0, (by omega), (by omega), (by simp), rfl, rfl, rfl⟩ ?_
    rintro n_ _ _ ⟨i, hi, hin, he, rfl, rfl, rfl⟩
    refine RunC.seq ?_
    refine RunC.sr ?_
    refine RunR.sl hU [] 4 4 [0, 1, 5, 14] [(0, .slice A xs.length c), (1, .slice A2 ys.length c2), (5, .int .i64 i), (14, .bool (decide (i < ((xs.length : Nat) : Int))))] 4 ?_
    refine RunR.nn ?_
    refine RunC.condp (i < ((xs.length : Nat) : Int)) (by kernel_rfl) (fun h4 => ?_) (fun h4 => ?_)
    · skip
      refine RunC.ks ?_
      refine RunC.seq ?_
      refine RunC.block ?_
      refine RunC.seq ?_
      refine RunC.regionU hU 9 [vw A (nums .u8 xs), vw A2 (nums .u8 ys)] [0, 1] [] (bm 9 0) (by kernel_rfl) (by kernel_rfl) (by kernel_rfl) ?_
      refine RunU.sl hU 0 (bm 9 1) 17 (.slice A xs.length c) ?_
      refine RunU.sl hU 1 (bm 9 3) 18 (.int .i64 i) ?_
      refine RunU.sil hU false 2 (bm 9 7) 19 (.pointer (elemAt A i 1)) ((0 ≤ i ∧ i < ((xs.length : Nat) : Int)) ∧ Option.isSome A = true) (by kernel_rfl) ⟨by omega, hA1 (by omega)⟩ (by kernel_rfl) (by kernel_rfl) (fun _ _ _ h => h) ?_
      refine RunU.rd 3 (bm 9 15) 20 (.load 5 (.tmp 19)) (.int .u8 (xs.getD (i).toNat 0)) [0, 1] (Reads.load_num hU 0 (vw A (nums .u8 xs)) A i .u8 xs rfl (by kernel_rfl) (by kernel_rfl) (tells_vw _ _) (by omega)) ?_
      have hb5 : 0 ≤ xs.getD ((i).toNat) 0 ∧ xs.getD ((i).toNat) 0 < 256 := hx.at_ _
      refine RunU.sl hU 4 (bm 9 31) 21 (.slice A2 ys.length c2) ?_
      refine RunU.sl hU 5 (bm 9 63) 22 (.int .i64 i) ?_
      refine RunU.sil hU false 6 (bm 9 127) 23 (.pointer (elemAt A2 i 1)) ((0 ≤ i ∧ i < ((ys.length : Nat) : Int)) ∧ Option.isSome A2 = true) (by kernel_rfl) ⟨by omega, hA2 (by omega)⟩ (by kernel_rfl) (by kernel_rfl) (fun _ _ _ h => h) ?_
      refine RunU.rd 7 (bm 9 255) 24 (.load 5 (.tmp 23)) (.int .u8 (ys.getD (i).toNat 0)) [0, 1] (Reads.load_num hU 1 (vw A2 (nums .u8 ys)) A2 i .u8 ys rfl (by kernel_rfl) (by kernel_rfl) (tells_vw _ _) (by omega)) ?_
      have hb6 : 0 ≤ ys.getD ((i).toNat) 0 ∧ ys.getD ((i).toNat) 0 < 256 := hy.at_ _
      refine RunU.sl hU 8 (bm 9 511) 25 (.bool (!decide ((xs.getD (i).toNat 0) = (ys.getD (i).toNat 0)))) ?_
      refine RunU.ev [0, 1, 5, 25] [(0, .slice A xs.length c), (1, .slice A2 ys.length c2), (5, .int .i64 i), (25, .bool (!decide ((xs.getD (i).toNat 0) = (ys.getD (i).toNat 0))))] ?_
      refine RunU.dn ?_
      refine kseq_n ?_
      refine RunC.condn ((xs.getD (i).toNat 0) = (ys.getD (i).toNat 0)) (by kernel_rfl) (fun h7 => ?_) (fun h7 => ?_)
      · skip
        refine RunC.sr ?_
        refine RunR.sl hU [] 1 1 [0, 1, 4, 5] [(0, .slice A xs.length c), (1, .slice A2 ys.length c2), (4, .bool false), (5, .int .i64 i)] 1 ?_
        refine RunR.nn ?_
        refine RunC.ret ?_
        refine kblock_r ?_
        refine kseq_r ?_
        refine kloop_r ?_
        refine kblock_r ?_
        refine kseq_r ?_
        refine kret_r [.bool false] [] [] ⟨rfl, trivial⟩ (by kernel_rfl) rfl ⟨(by (exact congrArg Value.bool (decide_eq_false (ne_of_getD (by assumption))).symm)), (by rfl)⟩
      · skip
        refine RunC.skip ?_
        refine kblock_n ?_
        refine kseq_n ?_
        refine RunC.region ?_
        refine RunR.sil hU [1] 3 3 [0, 1, 5] [(0, .slice A xs.length c), (1, .slice A2 ys.length c2), (5, .int .i64 (i + 1))] ((True) ∧ (-9223372036854775808 ≤ (i + 1) ∧ (i + 1) < 9223372036854775808) ∧ (True) ∧ True) rfl (by kernel_rfl) ⟨trivial, (by omega), trivial, trivial⟩ ?_
        refine RunR.dn ?_
        refine kloop_n _ [0, 1, 5] [0, 0] [(0, .slice A xs.length c), (1, .slice A2 ys.length c2), (5, .int .i64 (i + 1))] [vw A (nums .u8 xs), vw A2 (nums .u8 ys)] (by kernel_rfl) (by kernel_rfl) ?_ ⟨(i + 1), (by omega), (by assumption), (by rw [show (i + 1).toNat = i.toNat + 1 by omega]; exact (take_eq_succ (by omega) (by omega)).2 ⟨he, by omega⟩), rfl, (by rfl), (by rfl)⟩
        show ((xs.length - (i + 1)).toNat : Nat) < ((xs.length - i).toNat : Nat)
        omega
    · skip
      refine RunC.exit ?_
      refine kseq_e ?_
      refine kloop_e ?_
      refine kblock_e ?_
      refine kseq_n ?_
      refine RunC.sr ?_
      refine RunR.sl hU [] 1 1 [4] [(4, .bool true)] 1 ?_
      refine RunR.nn ?_
      refine RunC.ret ?_
      refine kret_r [.bool true] [] [] ⟨rfl, trivial⟩ (by kernel_rfl) rfl ⟨(by (exact congrArg Value.bool (decide_eq_true (eq_of_take (by omega) (by omega) he)).symm)), (by rfl)⟩

theorem w_Equal_spec (A : Option Addr) (c : Nat) (xs : List Int) (A2 : Option Addr) (c2 : Nat) (ys : List Int) (l_xs : Nat) (l_ys : Nat) (hx : In .u8 xs) (hn : xs.length ≤ 140737488351232) (hy : In .u8 ys) (hm : ys.length ≤ 140737488351232) (hl_xs : xs.length = l_xs) (hl_ys : ys.length = l_ys) :
    CallsS Try.prog 23 [.slice A l_xs c, .slice A2 l_ys c2] [vw A (nums .u8 xs), vw A2 (nums .u8 ys)] (fun r D => r = .bool (decide (xs = ys)) ∧ D = []) := by
  subst hl_xs
  subst hl_ys
  refine CallsS.enter hU Try.f23 _ [.tmp 4] 31 Try.func23 rfl (by decide) rfl rfl (by kernel_rfl) fun w0 W => ?_
  refine RunC.know (p := 0 < xs.length → Option.isSome A = true) (fun _ _ w hs => vw_some hs 0 rfl (by (simp [nums_length]; done))) (fun hA1 => ?_)
  refine RunC.know (p := 0 < ys.length → Option.isSome A2 = true) (fun _ _ w hs => vw_some hs 1 rfl (by (simp [nums_length]; done))) (fun hA2 => ?_)
  refine RunC.sr ?_
  refine RunR.sl hU [] 1 1 [0, 1, 4] [(0, .slice A xs.length c), (1, .slice A2 ys.length c2), (4, .bool false)] 1 ?_
  refine RunR.nn ?_
  refine RunC.seq ?_
  refine RunC.sr ?_
  refine RunR.sl hU [] 5 5 [0, 1, 4, 11] [(0, .slice A xs.length c), (1, .slice A2 ys.length c2), (4, .bool false), (11, .bool (!decide (((xs.length : Nat) : Int) = ((ys.length : Nat) : Int))))] 5 ?_
  refine RunR.nn ?_
  refine RunC.condn (((xs.length : Nat) : Int) = ((ys.length : Nat) : Int)) (by kernel_rfl) (fun h3 => ?_) (fun h3 => ?_)
  · skip
    refine RunC.sr ?_
    refine RunR.sl hU [] 1 1 [0, 1, 4] [(0, .slice A xs.length c), (1, .slice A2 ys.length c2), (4, .bool false)] 1 ?_
    refine RunR.nn ?_
    refine RunC.ret ?_
    refine kseq_r ?_
    refine kret_r [.bool false] [] [] ⟨rfl, trivial⟩ (by kernel_rfl) rfl ⟨(by (exact congrArg Value.bool (decide_eq_false (fun e => absurd (congrArg List.length e) (by omega))).symm)), (by rfl)⟩
  · skip
    refine RunC.ksr ?_
    refine RunR.sl hU [] 1 1 [0, 1, 4, 5] [(0, .slice A xs.length c), (1, .slice A2 ys.length c2), (4, .bool false), (5, .int .u8 0)] 1 ?_
    refine RunR.nn ?_
    refine RunC.seq ?_
    refine RunC.sr ?_
    refine RunR.sl hU [] 3 3 [0, 1, 4, 5, 13, 14] [(0, .slice A xs.length c), (1, .slice A2 ys.length c2), (4, .bool false), (5, .int .u8 0), (13, .int .i64 ((xs.length : Nat) : Int)), (14, .int .i64 0)] 3 ?_
    refine RunR.nn ?_
    refine RunC.block ?_
    refine RunC.env [0, 1, 4, 5, 13, 14] [(0, .slice A xs.length c), (1, .slice A2 ys.length c2), (4, .bool false), (5, .int .u8 0), (13, .int .i64 ((xs.length : Nat) : Int)), (14, .int .i64 0)] (by kernel_rfl) ?_
    refine RunC.only [0, 0] [vw A (nums .u8 xs), vw A2 (nums .u8 ys)] (by kernel_rfl) ?_
    refine RunC.loop (σ := Nat) (fun n_ t_ D_ => ∃ (i : Int) (d : Int), (0 ≤ i) ∧ (i ≤ (xs.length : Int)) ∧ (0 ≤ d ∧ d < 256) ∧ (d = 0 ↔ xs.take i.toNat = ys.take i.toNat) ∧ n_ = ((xs.length - i).toNat : Nat) ∧ t_ = [(0, .slice A xs.length c), (1, .slice A2 ys.length c2), (4, .bool false), (5, .int .u8 d), (13, .int .i64 ((xs.length : Nat) : Int)), (14, .int .i64 i)] ∧ D_ = [vw A (nums .u8 xs), vw A2 (nums .u8 ys)]) id _ ⟨0, 0, (by omega), (by omega), (by omega), (by simp), rfl, rfl, rfl⟩ ?_
    rintro n_ _ _ ⟨i, d, hi, hin, hd, he, rfl, rfl, rfl⟩
    refine RunC.sr ?_
    refine RunR.sl hU [] 1 1 [0, 1, 4, 5, 13, 14, 15] [(0, .slice A xs.length c), (1, .slice A2 ys.length c2), (4, .bool false), (5, .int .u8 d), (13, .int .i64 ((xs.length : Nat) : Int)), (14, .int .i64 i), (15, .bool (decide (i < ((xs.length : Nat) : Int))))] 1 ?_
    refine RunR.nn ?_
    refine RunC.seq ?_
    refine RunC.condp (i < ((xs.length : Nat) : Int)) (by kernel_rfl) (fun h4 => ?_) (fun h4 => ?_)
    · skip
      refine RunC.ks ?_
      refine RunC.seq ?_
      refine RunC.block ?_
      refine RunC.sr ?_
      refine RunR.sl hU [] 2 2 [0, 1, 4, 5, 6, 13, 14] [(0, .slice A xs.length c), (1, .slice A2 ys.length c2), (4, .bool false), (5, .int .u8 d), (6, .int .i64 i), (13, .int .i64 ((xs.length : Nat) : Int)), (14, .int .i64 i)] 2 ?_
      refine RunR.nn ?_
      refine RunC.regionU hU 12 [vw A (nums .u8 xs), vw A2 (nums .u8 ys)] [0, 1] [11] (bm 12 0) (by kernel_rfl) (by kernel_rfl) (by kernel_rfl) ?_
      refine RunU.sl hU 0 (bm 12 1) 17 (.int .u8 d) ?_
      refine RunU.sl hU 1 (bm 12 3) 18 (.slice A xs.length c) ?_
      refine RunU.sl hU 2 (bm 12 7) 19 (.int .i64 i) ?_
      refine RunU.sil hU false 3 (bm 12 15) 20 (.pointer (elemAt A i 1)) ((0 ≤ i ∧ i < ((xs.length : Nat) : Int)) ∧ Option.isSome A = true) (by kernel_rfl) ⟨by omega, hA1 (by omega)⟩ (by kernel_rfl) (by kernel_rfl) (fun _ _ _ h => h) ?_
      refine RunU.rd 4 (bm 12 31) 21 (.load 5 (.tmp 20)) (.int .u8 (xs.getD (i).toNat 0)) [0, 1] (Reads.load_num hU 0 (vw A (nums .u8 xs)) A i .u8 xs rfl (by kernel_rfl) (by kernel_rfl) (tells_vw _ _) (by omega)) ?_
      have hb5 : 0 ≤ xs.getD ((i).toNat) 0 ∧ xs.getD ((i).toNat) 0 < 256 := hx.at_ _
      refine RunU.sl hU 5 (bm 12 63) 22 (.slice A2 ys.length c2) ?_
      refine RunU.sl hU 6 (bm 12 127) 23 (.int .i64 i) ?_
      refine RunU.sil hU false 7 (bm 12 255) 24 (.pointer (elemAt A2 i 1)) ((0 ≤ i ∧ i < ((ys.length : Nat) : Int)) ∧ Option.isSome A2 = true) (by kernel_rfl) ⟨by omega, hA2 (by omega)⟩ (by kernel_rfl) (by kernel_rfl) (fun _ _ _ h => h) ?_
      refine RunU.rd 8 (bm 12 511) 25 (.load 5 (.tmp 24)) (.int .u8 (ys.getD (i).toNat 0)) [0, 1] (Reads.load_num hU 1 (vw A2 (nums .u8 ys)) A2 i .u8 ys rfl (by kernel_rfl) (by kernel_rfl) (tells_vw _ _) (by omega)) ?_
      have hb6 : 0 ≤ ys.getD ((i).toNat) 0 ∧ ys.getD ((i).toNat) 0 < 256 := hy.at_ _
      refine RunU.sl hU 9 (bm 12 1023) 26 (.int .u8 (bits2 .xor .u8 (xs.getD (i).toNat 0) (ys.getD (i).toNat 0))) ?_
      refine RunU.sl hU 10 (bm 12 2047) 27 (.int .u8 (bits2 .or .u8 d (bits2 .xor .u8 (xs.getD (i).toNat 0) (ys.getD (i).toNat 0)))) ?_
      refine RunU.sl hU 11 (bm 12 4095) 5 (.int .u8 (bits2 .or .u8 d (bits2 .xor .u8 (xs.getD (i).toNat 0) (ys.getD (i).toNat 0)))) ?_
      refine RunU.ev [0, 1, 4, 5, 13, 14] [(0, .slice A xs.length c), (1, .slice A2 ys.length c2), (4, .bool false), (5, .int .u8 (bits2 .or .u8 d (bits2 .xor .u8 (xs.getD (i).toNat 0) (ys.getD (i).toNat 0)))), (13, .int .i64 ((xs.length : Nat) : Int)), (14, .int .i64 i)] ?_
      refine RunU.dn ?_
      refine kblock_n ?_
      refine kseq_n ?_
      refine RunC.region ?_
      refine RunR.sil hU [0] 2 2 [0, 1, 4, 5, 13, 14] [(0, .slice A xs.length c), (1, .slice A2 ys.length c2), (4, .bool false), (5, .int .u8 (bits2 .or .u8 d (bits2 .xor .u8 (xs.getD (i).toNat 0) (ys.getD (i).toNat 0)))), (13, .int .i64 ((xs.length : Nat) : Int)), (14, .int .i64 (i + 1))] ((-9223372036854775808 ≤ (i + 1) ∧ (i + 1) < 9223372036854775808) ∧ (True) ∧ True) rfl (by kernel_rfl) ⟨(by omega), trivial, trivial⟩ ?_
      refine RunR.dn ?_
      refine kloop_n _ [0, 1, 4, 5, 13, 14] [0, 0] [(0, .slice A xs.length c), (1, .slice A2 ys.length c2), (4, .bool false), (5, .int .u8 (bits2 .or .u8 d (bits2 .xor .u8 (xs.getD (i).toNat 0) (ys.getD (i).toNat 0)))), (13, .int .i64 ((xs.length : Nat) : Int)), (14, .int .i64 (i + 1))] [vw A (nums .u8 xs), vw A2 (nums .u8 ys)] (by kernel_rfl) (by kernel_rfl) ?_ ⟨(i + 1), (bits2 .or .u8 d (bits2 .xor .u8 (xs.getD (i).toNat 0) (ys.getD (i).toNat 0))), (by omega), (by assumption), (by exact (or_xor_zero d _ _ hd (hx.at_ _) (hy.at_ _)).1), (by rw [show (i + 1).toNat = i.toNat + 1 by omega, take_eq_succ (by omega) (by omega), ← he]; exact (or_xor_zero d _ _ hd (hx.at_ _) (hy.at_ _)).2), rfl, (by rfl), (by rfl)⟩
      show ((xs.length - (i + 1)).toNat : Nat) < ((xs.length - i).toNat : Nat)
      omega
    · skip
      refine RunC.exit ?_
      refine kseq_e ?_
      refine kloop_e ?_
      refine kblock_e ?_
      refine kseq_n ?_
      refine RunC.sr ?_
      refine RunR.sl hU [] 3 3 [4] [(4, .bool (decide (d = 0)))] 3 ?_
      refine RunR.nn ?_
      refine RunC.ret ?_
      refine kret_r [.bool (decide (d = 0))] [] [] ⟨rfl, trivial⟩ (by kernel_rfl) rfl ⟨(by (exact congrArg Value.bool (decide_eq_decide.2 (he.trans ⟨eq_of_take (by omega) (by omega), fun e => by rw [e]⟩)))), (by rfl)⟩
end Go.Proofs.Ytkehpipialmneaa.X1
