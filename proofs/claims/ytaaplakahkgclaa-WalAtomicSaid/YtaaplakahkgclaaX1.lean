/- What these functions compute: a contract for each, walked through its code. -/
import Derived.Test.YtaaplakahkgclaaSLzk
import Derived.Test.YtaaplakahkgclaaBPure
import Derived.Test.YtaaplakahkgclaaProg
namespace Go.Proofs.Ytaaplakahkgclaa.X1
open Go Go.Proofs.Ytaaplakahkgclaa.SL Go.Proofs.Ytaaplakahkgclaa.SL.W Go.Proofs.Ytaaplakahkgclaa.SL.D
set_option linter.unusedVariables false
set_option linter.unusedSimpArgs false
set_option maxRecDepth 100000
set_option maxHeartbeats 40000000
def U : Tab where
  und := [(3, .int .i64), (5, .int .u8), (9, .string), (23, .slice 5), (86, .int .u64), (96, .int .u32)]
  fld := []
  sz := [(3, 1), (5, 1), (9, 1), (23, 1), (86, 1), (96, 1)]
  ti := [(3, (1, 8, .int .i64 0)), (5, (1, 1, .int .u8 0)), (9, (1, 16, .string ⟨#[]⟩)), (23, (1, 24, .slice none 0 0)), (86, (1, 8, .int .u64 0)), (96, (1, 4, .int .u32 0))]
  bld := []

theorem hU : U.OK Try.prog where
  und := by
    intro p hp
    simp only [U, List.mem_cons, List.not_mem_nil, or_false] at hp
    rcases hp with rfl | rfl | rfl | rfl | rfl | rfl
    · exact Try.underlying3
    · exact Try.underlying5
    · exact Try.underlying9
    · exact Try.underlying23
    · exact Try.underlying86
    · exact Try.underlying96
  fld := by
    intro p hp; cases hp
  sz := by
    intro p hp
    simp only [U, List.mem_cons, List.not_mem_nil, or_false] at hp
    rcases hp with rfl | rfl | rfl | rfl | rfl | rfl
    · exact ⟨Try.prog.types[3]!, by kernel_rfl, by kernel_rfl⟩
    · exact ⟨Try.prog.types[5]!, by kernel_rfl, by kernel_rfl⟩
    · exact ⟨Try.prog.types[9]!, by kernel_rfl, by kernel_rfl⟩
    · exact ⟨Try.prog.types[23]!, by kernel_rfl, by kernel_rfl⟩
    · exact ⟨Try.prog.types[86]!, by kernel_rfl, by kernel_rfl⟩
    · exact ⟨Try.prog.types[96]!, by kernel_rfl, by kernel_rfl⟩
  ti := by
    intro p hp
    simp only [U, List.mem_cons, List.not_mem_nil, or_false] at hp
    rcases hp with rfl | rfl | rfl | rfl | rfl | rfl
    · exact ⟨Try.prog.types[3]!, by kernel_rfl, by kernel_rfl, by kernel_rfl, by kernel_rfl⟩
    · exact ⟨Try.prog.types[5]!, by kernel_rfl, by kernel_rfl, by kernel_rfl, by kernel_rfl⟩
    · exact ⟨Try.prog.types[9]!, by kernel_rfl, by kernel_rfl, by kernel_rfl, by kernel_rfl⟩
    · exact ⟨Try.prog.types[23]!, by kernel_rfl, by kernel_rfl, by kernel_rfl, by kernel_rfl⟩
    · exact ⟨Try.prog.types[86]!, by kernel_rfl, by kernel_rfl, by kernel_rfl, by kernel_rfl⟩
    · exact ⟨Try.prog.types[96]!, by kernel_rfl, by kernel_rfl, by kernel_rfl, by kernel_rfl⟩
  bld := by
    intro p hp; cases hp
  mixed := by kernel_rfl

theorem w_at_spec (A : Option Addr) (c : Nat) (xs : List Int) (i : Int) (l_xs : Nat) (hx : In .u8 xs) (h0 : 0 ≤ i) (hl_xs : xs.length = l_xs) :
    CallsS Try.prog 104 [.slice A l_xs c, .int .i64 i] [vw A (nums .u8 xs)] (fun r D => r = .int .u64 (xs.getD i.toNat 0) ∧ D = []) := by
  subst hl_xs
  refine CallsS.enter hU Try.f104 _ [.tmp 4] 14 Try.func104 rfl (by decide) rfl rfl (by kernel_rfl) fun w0 W => ?_
  refine RunC.know (p := 0 < xs.length → Option.isSome A = true) (fun _ _ w hs => vw_some hs 0 rfl (by (simp [nums_length]; done))) (fun hA1 => ?_)
  refine RunC.sr ?_
  refine RunR.sl hU [] 1 1 [0, 1, 4] [(0, .slice A xs.length c), (1, .int .i64 i), (4, .int .u64 0)] 1 ?_
  refine RunR.nn ?_
  refine RunC.seq ?_
  refine RunC.sr ?_
  refine RunR.sl hU [] 4 4 [0, 1, 4, 8] [(0, .slice A xs.length c), (1, .int .i64 i), (4, .int .u64 0), (8, .bool (decide (i < ((xs.length : Nat) : Int))))] 4 ?_
  refine RunR.nn ?_
  refine RunC.condp (i < ((xs.length : Nat) : Int)) (by kernel_rfl) (fun h2 => ?_) (fun h2 => ?_)
  · skip
    refine RunC.sr ?_
    refine RunR.sil hU [] 3 3 [4, 11] [(4, .int .u64 0), (11, .pointer (elemAt A i 1))] ((True) ∧ (True) ∧ ((0 ≤ i ∧ i < ((xs.length : Nat) : Int)) ∧ Option.isSome A = true) ∧ True) rfl (by kernel_rfl) ⟨trivial, trivial, ⟨by omega, hA1 (by omega)⟩, trivial⟩ ?_
    refine RunR.st (some 12) (.load 5 (.tmp 11)) (Step.load_num hU 0 (vw A (nums .u8 xs)) A i .u8 xs rfl (by kernel_rfl) (by kernel_rfl) (tells_vw _ _) (by kernel_rfl) (by omega) ?_)
    have hb3 : 0 ≤ xs.getD ((i).toNat) 0 ∧ xs.getD ((i).toNat) 0 < 256 := hx.at_ _
    refine RunR.sil hU [4] 2 6 [4] [(4, .int .u64 (xs.getD (i).toNat 0))] ((0 ≤ (xs.getD (i).toNat 0) ∧ (xs.getD (i).toNat 0) < 18446744073709551616) ∧ (True) ∧ True) rfl (by kernel_rfl) ⟨(by omega), trivial, trivial⟩ ?_
    refine RunR.nn ?_
    refine RunC.ret ?_
    refine kseq_r ?_
    refine kret_r [.int .u64 (xs.getD (i).toNat 0)] [] [] ⟨rfl, trivial⟩ (by kernel_rfl) rfl ⟨(by rfl), (by rfl)⟩
  · skip
    refine RunC.ksr ?_
    refine RunR.sl hU [] 1 1 [4] [(4, .int .u64 0)] 1 ?_
    refine RunR.nn ?_
    refine RunC.ret ?_
    refine kret_r [.int .u64 0] [] [] ⟨rfl, trivial⟩ (by kernel_rfl) rfl ⟨(by (rw [getD_ge xs _ (by omega)]; rfl)), (by rfl)⟩

theorem w_get_spec (A : Option Addr) (c : Nat) (xs : List Int) (n : Int) (l_xs : Nat) (hx : In .u8 xs) (hn : xs.length ≤ 140737488351232) (h0 : 0 ≤ n) (h8 : n ≤ 8) (hl_xs : xs.length = l_xs) :
    CallsS Try.prog 84 [.slice A l_xs c, .int .i64 n] [vw A (nums .u8 xs)] (fun r D => r = .int .u64 (leN xs n.toNat) ∧ D = []) := by
  subst hl_xs
  refine CallsS.enter hU Try.f84 _ [.tmp 4] 21 Try.func84 rfl (by decide) rfl rfl (by kernel_rfl) fun w0 W => ?_
  refine RunC.know (p := 0 < xs.length → Option.isSome A = true) (fun _ _ w hs => vw_some hs 0 rfl (by (simp [nums_length]; done))) (fun hA1 => ?_)
  refine RunC.sr ?_
  refine RunR.sl hU [] 1 1 [0, 1, 4] [(0, .slice A xs.length c), (1, .int .i64 n), (4, .int .u64 0)] 1 ?_
  refine RunR.nx ?_
  refine RunR.sl hU [] 1 1 [0, 1, 4, 5] [(0, .slice A xs.length c), (1, .int .i64 n), (4, .int .u64 0), (5, .int .u64 0)] 1 ?_
  refine RunR.nn ?_
  refine RunC.seq ?_
  refine RunC.sr ?_
  refine RunR.sl hU [] 2 2 [0, 4, 5, 7, 8] [(0, .slice A xs.length c), (4, .int .u64 0), (5, .int .u64 0), (7, .int .i64 n), (8, .int .i64 0)] 2 ?_
  refine RunR.nn ?_
  refine RunC.block ?_
  refine RunC.env [0, 4, 5, 7, 8] [(0, .slice A xs.length c), (4, .int .u64 0), (5, .int .u64 0), (7, .int .i64 n), (8, .int .i64 0)] (by kernel_rfl) ?_
  refine RunC.only [0] [vw A (nums .u8 xs)] (by kernel_rfl) ?_
  refine RunC.loop (σ := Nat) (fun n_ t_ D_ => ∃ (i : Int) (v : Int), (0 ≤ i) ∧ (i ≤ n) ∧ (v = leN xs i.toNat) ∧ n_ = ((n - i).toNat : Nat) ∧ t_ = [(0, .slice A xs.length c), (4, .int .u64 0), (5, .int .u64 v), (7, .int .i64 n), (8, .int .i64 i)] ∧ D_ = [vw A (nums .u8 xs)]) id _ ⟨0, 0, (by omega), (by assumption), (by rfl), rfl, rfl, rfl⟩ ?_
  rintro n_ _ _ ⟨i, v, hi, hin, hv, rfl, rfl, rfl⟩
  refine RunC.sr ?_
  refine RunR.sl hU [] 1 1 [0, 4, 5, 7, 8, 9] [(0, .slice A xs.length c), (4, .int .u64 0), (5, .int .u64 v), (7, .int .i64 n), (8, .int .i64 i), (9, .bool (decide (i < n)))] 1 ?_
  refine RunR.nn ?_
  refine RunC.seq ?_
  refine RunC.condp (i < n) (by kernel_rfl) (fun h2 => ?_) (fun h2 => ?_)
  · skip
    refine RunC.ks ?_
    refine RunC.seq ?_
    refine RunC.block ?_
    refine RunC.sr ?_
    refine RunR.sl hU [] 2 2 [0, 4, 5, 6, 7, 8] [(0, .slice A xs.length c), (4, .int .u64 0), (5, .int .u64 v), (6, .int .i64 i), (7, .int .i64 n), (8, .int .i64 i)] 2 ?_
    refine RunR.nn ?_
    refine RunC.region ?_
    refine RunR.sl hU [] 3 3 [0, 4, 5, 6, 7, 8, 11, 12, 13] [(0, .slice A xs.length c), (4, .int .u64 0), (5, .int .u64 v), (6, .int .i64 i), (7, .int .i64 n), (8, .int .i64 i), (11, .int .u64 v), (12, .slice A xs.length c), (13, .int .i64 i)] 3 ?_
    refine RunR.st (some 14) (.call { callee := .value (.func 104), args := #[.tmp 12, .tmp 13], argTypes := #[23, 3] }) (Step.cl 104 [.slice A xs.length c, .int .i64 i] [] [vw A (nums .u8 xs)] [vw A (nums .u8 xs)] (w_at_spec A c xs i xs.length hx (by assumption) (by rfl)) [] ((Lend.nil _).tells 0 (vw A (nums .u8 xs)) A (nums .u8 xs) (by kernel_rfl) (tells_vw _ _)) ?_)
    rintro _ _ ⟨rfl, rfl⟩
    refine RunR.sil hU [5] 5 9 [0, 4, 5, 7, 8] [(0, .slice A xs.length c), (4, .int .u64 0), (5, .int .u64 (bits2 .or .u64 v (IntKind.wrap .u64 ((xs.getD i.toNat 0) * 2 ^ (min (8 * i).toNat 64))))), (7, .int .i64 n), (8, .int .i64 i)] ((True) ∧ (-9223372036854775808 ≤ (8 * i) ∧ (8 * i) < 9223372036854775808) ∧ (0 ≤ (8 * i)) ∧ (True) ∧ (True) ∧ True) rfl (by kernel_rfl) ⟨trivial, (by omega), (by omega), trivial, trivial, trivial⟩ ?_
    refine RunR.dn ?_
    refine kblock_n ?_
    refine kseq_n ?_
    refine RunC.region ?_
    refine RunR.sil hU [0] 2 2 [0, 4, 5, 7, 8] [(0, .slice A xs.length c), (4, .int .u64 0), (5, .int .u64 (bits2 .or .u64 v (IntKind.wrap .u64 ((xs.getD i.toNat 0) * 2 ^ (min (8 * i).toNat 64))))), (7, .int .i64 n), (8, .int .i64 (i + 1))] ((-9223372036854775808 ≤ (i + 1) ∧ (i + 1) < 9223372036854775808) ∧ (True) ∧ True) rfl (by kernel_rfl) ⟨(by omega), trivial, trivial⟩ ?_
    refine RunR.dn ?_
    refine kloop_n _ [0, 4, 5, 7, 8] [0] [(0, .slice A xs.length c), (4, .int .u64 0), (5, .int .u64 (bits2 .or .u64 v (IntKind.wrap .u64 ((xs.getD i.toNat 0) * 2 ^ (min (8 * i).toNat 64))))), (7, .int .i64 n), (8, .int .i64 (i + 1))] [vw A (nums .u8 xs)] (by kernel_rfl) (by kernel_rfl) ?_ ⟨(i + 1), (bits2 .or .u64 v (IntKind.wrap .u64 ((xs.getD i.toNat 0) * 2 ^ (min (8 * i).toNat 64)))), (by omega), (by assumption), (by rw [hv]; exact get_step hx i hi (by omega)), rfl, (by rfl), (by rfl)⟩
    show ((n - (i + 1)).toNat : Nat) < ((n - i).toNat : Nat)
    omega
  · skip
    refine RunC.exit ?_
    refine kseq_e ?_
    refine kloop_e ?_
    refine kblock_e ?_
    refine kseq_n ?_
    refine RunC.sr ?_
    refine RunR.sl hU [] 2 2 [4] [(4, .int .u64 v)] 2 ?_
    refine RunR.nn ?_
    refine RunC.ret ?_
    refine kret_r [.int .u64 v] [] [] ⟨rfl, trivial⟩ (by kernel_rfl) rfl ⟨(by (rw [show n = i by omega, hv]; rfl)), (by rfl)⟩

theorem w_Get32_spec (A : Option Addr) (c : Nat) (xs : List Int) (l_xs : Nat) (hx : In .u8 xs) (hn : xs.length ≤ 140737488351232) (hl_xs : xs.length = l_xs) :
    CallsS Try.prog 65 [.slice A l_xs c] [vw A (nums .u8 xs)] (fun r D => ∃ (v : Int), r = .int .u32 v ∧ D = [] ∧ (v = leN xs 4) ∧ (0 ≤ v ∧ v < 4294967296)) := by
  subst hl_xs
  refine CallsS.enter hU Try.f65 _ [.tmp 2] 6 Try.func65 rfl (by decide) rfl rfl (by kernel_rfl) fun w0 W => ?_
  refine RunC.know (p := 0 < xs.length → Option.isSome A = true) (fun _ _ w hs => vw_some hs 0 rfl (by (simp [nums_length]; done))) (fun hA1 => ?_)
  refine RunC.sr ?_
  refine RunR.sl hU [] 1 1 [0, 2] [(0, .slice A xs.length c), (2, .int .u32 0)] 1 ?_
  refine RunR.nx ?_
  refine RunR.sl hU [] 1 1 [2, 3] [(2, .int .u32 0), (3, .slice A xs.length c)] 1 ?_
  refine RunR.st (some 4) (.call { callee := .value (.func 84), args := #[.tmp 3, .const (.int .i64 4)], argTypes := #[23, 3] }) (Step.cl 84 [.slice A xs.length c, .int .i64 4] [] [vw A (nums .u8 xs)] [vw A (nums .u8 xs)] (w_get_spec A c xs 4 xs.length hx (by assumption) (by omega) (by omega) (by rfl)) [] ((Lend.nil _).tells 0 (vw A (nums .u8 xs)) A (nums .u8 xs) (by kernel_rfl) (tells_vw _ _)) ?_)
  rintro _ _ ⟨rfl, rfl⟩
  refine RunR.sl hU [] 2 4 [2] [(2, .int .u32 (IntKind.wrap .u32 (leN xs (4 : Int).toNat)))] 2 ?_
  refine RunR.nn ?_
  refine RunC.ret ?_
  refine kret_r [.int .u32 (IntKind.wrap .u32 (leN xs (4 : Int).toNat))] [] [] ⟨rfl, trivial⟩ (by kernel_rfl) rfl ⟨(IntKind.wrap .u32 (leN xs (4 : Int).toNat)), rfl, rfl, (by exact wrap_u32 _ (leN_bd hx 4).1 (leN_bd hx 4).2), (by have e_ := wrap_u32 _ (leN_bd hx 4).1 (leN_bd hx 4).2; have f_ := leN_bd hx 4; exact ⟨by rw [show (Int.toNat 4) = 4 from rfl, e_]; exact f_.1, by rw [show (Int.toNat 4) = 4 from rfl, e_]; exact f_.2⟩)⟩

theorem w_little_spec (v : Int) (n : Int) (hv0 : fits .u64 v) (h0 : 0 ≤ n) (h8 : n ≤ 8) :
    CallsS Try.prog 105 [.int .u64 v, .int .i64 n] [] (fun r D => ∃ (A : Option Addr) (c : Nat) (zs : List Int), r = .slice A zs.length c ∧ D = [row 5 1 (.slice A zs.length c) zs.length (nums .u8 zs)] ∧ (zs = leB v n.toNat) ∧ (zs.length = n.toNat) ∧ (In .u8 zs) ∧ (zs.length ≤ c) ∧ (0 < zs.length → Option.isSome A = true)) := by
  refine CallsS.enter hU Try.f105 _ [.tmp 4] 23 Try.func105 rfl (by decide) rfl rfl (by kernel_rfl) fun w0 W => ?_
  refine RunC.sr ?_
  refine RunR.sl hU [] 1 1 [0, 1, 4] [(0, .int .u64 v), (1, .int .i64 n), (4, .slice none 0 0)] 1 ?_
  refine RunR.nx ?_
  refine RunR.sl hU [] 1 1 [0, 1, 4, 7] [(0, .int .u64 v), (1, .int .i64 n), (4, .slice none 0 0), (7, .int .i64 n)] 1 ?_
  refine RunR.st (some 8) (.makeSlice 23 (.tmp 7) (.tmp 7)) (Step.make_nums hU 5 1 .u8 .i64 .i64 (n) rfl rfl (by kernel_rfl) (by kernel_rfl) (by omega) (by omega) (by kernel_rfl) (fun b1 => ?_))
  have hl2 : (List.replicate ((n).toNat) (0 : Int)).length = (n).toNat := List.length_replicate
  refine RunR.sl hU [] 1 3 [0, 1, 4, 5] [(0, .int .u64 v), (1, .int .i64 n), (4, .slice none 0 0), (5, .slice (some ⟨b1, 0, none⟩) ((n).toNat) ((n).toNat))] 1 ?_
  refine RunR.nn ?_
  refine RunC.seq ?_
  refine RunC.sr ?_
  refine RunR.sl hU [] 2 2 [0, 4, 5, 9, 10] [(0, .int .u64 v), (4, .slice none 0 0), (5, .slice (some ⟨b1, 0, none⟩) ((n).toNat) ((n).toNat)), (9, .int .i64 n), (10, .int .i64 0)] 2 ?_
  refine RunR.nn ?_
  refine RunC.block ?_
  refine RunC.env [0, 4, 5, 9, 10] [(0, .int .u64 v), (4, .slice none 0 0), (5, .slice (some ⟨b1, 0, none⟩) ((n).toNat) ((n).toNat)), (9, .int .i64 n), (10, .int .i64 0)] (by kernel_rfl) ?_
  refine RunC.only [0] [row 5 1 (.slice (some ⟨b1, 0, none⟩) ((n).toNat) ((n).toNat)) ((n).toNat) (nums .u8 (List.replicate ((n).toNat) (0 : Int)))] (by kernel_rfl) ?_
  refine RunC.loop (σ := Nat) (fun n_ t_ D_ => ∃ (i : Int) (zs : List Int) (A : Option Addr) (c : Nat), (0 ≤ i) ∧ (i ≤ n) ∧ (zs = leB v i.toNat ++ List.replicate (n - i).toNat (0 : Int)) ∧ (zs.length = n.toNat) ∧ (n.toNat ≤ c) ∧ (0 < n.toNat → Option.isSome A = true) ∧ n_ = ((n - i).toNat : Nat) ∧ t_ = [(0, .int .u64 v), (4, .slice none 0 0), (5, .slice A n.toNat c), (9, .int .i64 n), (10, .int .i64 i)] ∧ D_ = [row 5 1 (.slice A n.toNat c) n.toNat (nums .u8 zs)]) id _ ⟨0, (List.replicate ((n).toNat) (0 : Int)), (some ⟨b1, 0, none⟩), ((n).toNat), (by omega), (by assumption), (by simp [leB]), (by simp), (by exact Nat.le_refl _), (fun _ => rfl), rfl, rfl, rfl⟩ ?_
  rintro n_ _ _ ⟨i, zs, A, c, hi, hin, hz, hzl, hc, hA, rfl, rfl, rfl⟩
  refine RunC.sr ?_
  refine RunR.sl hU [] 1 1 [0, 4, 5, 9, 10, 11] [(0, .int .u64 v), (4, .slice none 0 0), (5, .slice A n.toNat c), (9, .int .i64 n), (10, .int .i64 i), (11, .bool (decide (i < n)))] 1 ?_
  refine RunR.nn ?_
  refine RunC.seq ?_
  refine RunC.condp (i < n) (by kernel_rfl) (fun h3 => ?_) (fun h3 => ?_)
  · skip
    refine RunC.ks ?_
    refine RunC.seq ?_
    refine RunC.block ?_
    refine RunC.sr ?_
    refine RunR.sl hU [] 2 2 [0, 4, 5, 6, 9, 10] [(0, .int .u64 v), (4, .slice none 0 0), (5, .slice A n.toNat c), (6, .int .i64 i), (9, .int .i64 n), (10, .int .i64 i)] 2 ?_
    refine RunR.nn ?_
    refine RunC.region ?_
    have hm4 : 0 ≤ v → 0 ≤ v / 2 ^ (min (8 * i).toNat 64) ∧ v / 2 ^ (min (8 * i).toNat 64) ≤ v := fun h => ⟨Int.ediv_nonneg h (Int.le_of_lt (Int.pow_pos (by decide))), Int.ediv_le_self _ h⟩
    refine RunR.sil hU [4, 5] 8 8 [0, 4, 5, 9, 10, 19, 20] [(0, .int .u64 v), (4, .slice none 0 0), (5, .slice A n.toNat c), (9, .int .i64 n), (10, .int .i64 i), (19, .int .u8 (IntKind.wrap .u8 (v / 2 ^ (min (8 * i).toNat 64)))), (20, .pointer (elemAt A i 1))] ((True) ∧ (True) ∧ (True) ∧ (True) ∧ (-9223372036854775808 ≤ (8 * i) ∧ (8 * i) < 9223372036854775808) ∧ (0 ≤ (8 * i)) ∧ (True) ∧ ((0 ≤ i ∧ i < ((n.toNat : Nat) : Int)) ∧ Option.isSome A = true) ∧ True) rfl (by kernel_rfl) ⟨trivial, trivial, trivial, trivial, (by omega), (by omega), trivial, ⟨by omega, hA (by omega)⟩, trivial⟩ ?_
    refine RunR.st none (.store 5 (.tmp 20) (.tmp 19)) (Step.store_num hU 0 5 n.toNat c A .u8 zs i (IntKind.wrap .u8 (v / 2 ^ (min (8 * i).toNat 64))) (by kernel_rfl) (by kernel_rfl) (by kernel_rfl) rfl (by omega) ?_)
    have hl5 : (zs.set (i).toNat (IntKind.wrap .u8 (v / 2 ^ (min (8 * i).toNat 64)))).length = zs.length := List.length_set
    refine RunR.dn ?_
    refine kblock_n ?_
    refine kseq_n ?_
    refine RunC.region ?_
    refine RunR.sil hU [0] 2 2 [0, 4, 5, 9, 10] [(0, .int .u64 v), (4, .slice none 0 0), (5, .slice A n.toNat c), (9, .int .i64 n), (10, .int .i64 (i + 1))] ((-9223372036854775808 ≤ (i + 1) ∧ (i + 1) < 9223372036854775808) ∧ (True) ∧ True) rfl (by kernel_rfl) ⟨(by omega), trivial, trivial⟩ ?_
    refine RunR.dn ?_
    refine kloop_n _ [0, 4, 5, 9, 10] [0] [(0, .int .u64 v), (4, .slice none 0 0), (5, .slice A n.toNat c), (9, .int .i64 n), (10, .int .i64 (i + 1))] [row 5 1 (.slice A n.toNat c) n.toNat (nums .u8 (zs.set (i).toNat (IntKind.wrap .u8 (v / 2 ^ (min (8 * i).toNat 64)))))] (by kernel_rfl) (by kernel_rfl) ?_ ⟨(i + 1), (zs.set (i).toNat (IntKind.wrap .u8 (v / 2 ^ (min (8 * i).toNat 64)))), A, c, (by omega), (by assumption), (by rw [hz]; exact little_step v n i hi (by omega) h8), (by simp [hzl]), (by exact hc), (by exact hA), rfl, (by rfl), (by rfl)⟩
    show ((n - (i + 1)).toNat : Nat) < ((n - i).toNat : Nat)
    omega
  · skip
    refine RunC.exit ?_
    refine kseq_e ?_
    refine kloop_e ?_
    refine kblock_e ?_
    refine kseq_n ?_
    refine RunC.sr ?_
    refine RunR.sl hU [] 2 2 [4] [(4, .slice A n.toNat c)] 2 ?_
    refine RunR.nn ?_
    refine RunC.ret ?_
    refine kret_r [.slice A n.toNat c] [0] [row 5 1 (.slice A n.toNat c) n.toNat (nums .u8 zs)] ⟨rfl, trivial⟩ (by kernel_rfl) rfl ⟨A, c, zs, (by (simp only [hzl, retv])), (by (simp only [hzl, retv])), (by rw [hz, show i = n by omega]; simp), (by exact hzl), (by rw [hz]; exact In.append (leB_in _ _) (In.replicate _ _)), (by rw [hzl]; exact hc), (by rw [hzl]; exact hA)⟩

theorem w_Put32_spec (v : Int) (hv0 : fits .u32 v) :
    CallsS Try.prog 86 [.int .u32 v] [] (fun r D => ∃ (A : Option Addr) (c : Nat) (zs : List Int), r = .slice A zs.length c ∧ D = [row 5 1 (.slice A zs.length c) zs.length (nums .u8 zs)] ∧ (zs = leB v 4) ∧ (zs.length = 4) ∧ (In .u8 zs) ∧ (zs.length ≤ c) ∧ (0 < zs.length → Option.isSome A = true)) := by
  refine CallsS.enter hU Try.f86 _ [.tmp 2] 6 Try.func86 rfl (by decide) rfl rfl (by kernel_rfl) fun w0 W => ?_
  have hvb := hv0; simp only [fits] at hvb
  refine RunC.sr ?_
  refine RunR.sl hU [] 1 1 [0, 2] [(0, .int .u32 v), (2, .slice none 0 0)] 1 ?_
  refine RunR.nx ?_
  refine RunR.sil hU [1] 2 2 [2, 4] [(2, .slice none 0 0), (4, .int .u64 v)] ((True) ∧ (0 ≤ v ∧ v < 18446744073709551616) ∧ True) rfl (by kernel_rfl) ⟨trivial, (by omega), trivial⟩ ?_
  refine RunR.st (some 5) (.call { callee := .value (.func 105), args := #[.tmp 4, .const (.int .i64 4)], argTypes := #[86, 3] }) (Step.cn 105 [.int .u64 v, .int .i64 4] [] [] (w_little_spec v 4 (by (refine ⟨?_, ?_⟩ <;> omega)) (by omega) (by omega)) [] ?_)
  rintro _ _ ⟨Aq1, cq2, zs3, rfl, rfl, hp4, hp5, hp6, hp7, hp8⟩
  refine RunR.sl hU [] 1 4 [2] [(2, .slice Aq1 zs3.length cq2)] 1 ?_
  refine RunR.nn ?_
  refine RunC.ret ?_
  refine kret_r [.slice Aq1 zs3.length cq2] [0] [row 5 1 (.slice Aq1 zs3.length cq2) zs3.length (nums .u8 zs3)] ⟨rfl, trivial⟩ (by kernel_rfl) rfl ⟨Aq1, cq2, zs3, rfl, rfl, (by assumption), (by assumption), hp6, (by assumption), (fun h => hp8 (by exact h))⟩

theorem r_Equal_spec (A : Option Addr) (c : Nat) (xs : List Int) (A2 : Option Addr) (c2 : Nat) (ys : List Int) (l_xs : Nat) (l_ys : Nat) (hx : In .u8 xs) (hn : xs.length ≤ 140737488351232) (hy : In .u8 ys) (hm : ys.length ≤ 140737488351232) (hl_xs : xs.length = l_xs) (hl_ys : ys.length = l_ys) :
    CallsS Try.prog 34 [.slice A l_xs c, .slice A2 l_ys c2] [vw A (nums .u8 xs), vw A2 (nums .u8 ys)] (fun r D => r = .bool (decide (xs = ys)) ∧ D = []) := by
  subst hl_xs
  subst hl_ys
  refine CallsS.enter hU Try.f34 _ [.tmp 4] 26 Try.func34 rfl (by decide) rfl rfl (by kernel_rfl) fun w0 W => ?_
  refine RunC.know (p := 0 < xs.length → Option.isSome A = true) (fun _ _ w hs => vw_some hs 0 rfl (by (simp [nums_length]; done))) (fun hA1 => ?_)
  refine RunC.know (p := 0 < ys.length → Option.isSome A2 = true) (fun _ _ w hs => vw_some hs 1 rfl (by (simp [nums_length]; done))) (fun hA2 => ?_)
  refine RunC.sr ?_
  refine RunR.sl hU [] 1 1 [0, 1, 4] [(0, .slice A xs.length c), (1, .slice A2 ys.length c2), (4, .bool false)] 1 ?_
  refine RunR.nn ?_
  refine RunC.seq ?_
  refine RunC.sr ?_
  refine RunR.sl hU [] 5 5 [0, 1, 4, 10] [(0, .slice A xs.length c), (1, .slice A2 ys.length c2), (4, .bool false), (10, .bool (!decide (((xs.length : Nat) : Int) = ((ys.length : Nat) : Int))))] 5 ?_
  refine RunR.nn ?_
  refine RunC.condn (((xs.length : Nat) : Int) = ((ys.length : Nat) : Int)) (by kernel_rfl) (fun h3 => ?_) (fun h3 => ?_)
  · skip
    refine RunC.sr ?_
    refine RunR.sl hU [] 1 1 [0, 1, 4] [(0, .slice A xs.length c), (1, .slice A2 ys.length c2), (4, .bool false)] 1 ?_
    refine RunR.nn ?_
    refine RunC.ret ?_
    refine kseq_r ?_
    refine kret_r [.bool false] [] [] ⟨rfl, trivial⟩ (by kernel_rfl) rfl ⟨(by (exact congrArg Value.bool (decide_eq_false (fun e => absurd (congrArg List.length e) (by omega))).symm)), (by rfl)⟩
  · skip
    refine RunC.ks ?_
    refine RunC.seq ?_
    refine RunC.sr ?_
    refine RunR.sl hU [] 1 1 [0, 1, 4, 5] [(0, .slice A xs.length c), (1, .slice A2 ys.length c2), (4, .bool false), (5, .int .i64 0)] 1 ?_
    refine RunR.nn ?_
    refine RunC.block ?_
    refine RunC.env [0, 1, 5] [(0, .slice A xs.length c), (1, .slice A2 ys.length c2), (5, .int .i64 0)] (by kernel_rfl) ?_
    refine RunC.only [0, 0] [vw A (nums .u8 xs), vw A2 (nums .u8 ys)] (by kernel_rfl) ?_
    refine RunC.loop (σ := Nat) (fun n_ t_ D_ => ∃ (i : Int), (0 ≤ i) ∧ (i ≤ (xs.length : Int)) ∧ (xs.take i.toNat = ys.take i.toNat) ∧ n_ = ((xs.length - i).toNat : Nat) ∧ t_ = [(0, .slice A xs.length c), (1, .slice A2 ys.length c2), (5, .int .i64 i)] ∧ D_ = [vw A (nums .u8 xs), vw A2 (nums .u8 ys)]) id _ ⟨0, (by omega), (by omega), (by simp), rfl, rfl, rfl⟩ ?_
    rintro n_ _ _ ⟨i, hi, hin, he, rfl, rfl, rfl⟩
    refine RunC.seq ?_
    refine RunC.sr ?_
    refine RunR.sl hU [] 4 4 [0, 1, 5, 14] [(0, .slice A xs.length c), (1, .slice A2 ys.length c2), (5, .int .i64 i), (14, .bool (decide (i < ((xs.length : Nat) : Int))))] 4 ?_
    refine RunR.nn ?_
    refine RunC.condp (i < ((xs.length : Nat) : Int)) (by kernel_rfl) (fun h4 => ?_) (fun h4 => ?_)
    · skip
      refine RunC.ks ?_
      refine RunC.seq ?_
      refine RunC.block ?_
      refine RunC.seq ?_
      refine RunC.regionU hU 9 [vw A (nums .u8 xs), vw A2 (nums .u8 ys)] [0, 1] [] (bm 9 0) (by kernel_rfl) (by kernel_rfl) (by kernel_rfl) ?_
      refine RunU.sl hU 0 (bm 9 1) 17 (.slice A xs.length c) ?_
      refine RunU.sl hU 1 (bm 9 3) 18 (.int .i64 i) ?_
      refine RunU.sil hU false 2 (bm 9 7) 19 (.pointer (elemAt A i 1)) ((0 ≤ i ∧ i < ((xs.length : Nat) : Int)) ∧ Option.isSome A = true) (by kernel_rfl) ⟨by omega, hA1 (by omega)⟩ (by kernel_rfl) (by kernel_rfl) (fun _ _ _ h => h) ?_
      refine RunU.rd 3 (bm 9 15) 20 (.load 5 (.tmp 19)) (.int .u8 (xs.getD (i).toNat 0)) [0, 1] (Reads.load_num hU 0 (vw A (nums .u8 xs)) A i .u8 xs rfl (by kernel_rfl) (by kernel_rfl) (tells_vw _ _) (by omega)) ?_
      have hb5 : 0 ≤ xs.getD ((i).toNat) 0 ∧ xs.getD ((i).toNat) 0 < 256 := hx.at_ _
      refine RunU.sl hU 4 (bm 9 31) 21 (.slice A2 ys.length c2) ?_
      refine RunU.sl hU 5 (bm 9 63) 22 (.int .i64 i) ?_
      refine RunU.sil hU false 6 (bm 9 127) 23 (.pointer (elemAt A2 i 1)) ((0 ≤ i ∧ i < ((ys.length : Nat) : Int)) ∧ Option.isSome A2 = true) (by kernel_rfl) ⟨by omega, hA2 (by omega)⟩ (by kernel_rfl) (by kernel_rfl) (fun _ _ _ h => h) ?_
      refine RunU.rd 7 (bm 9 255) 24 (.load 5 (.tmp 23)) (.int .u8 (ys.getD (i).toNat 0)) [0, 1] (Reads.load_num hU 1 (vw A2 (nums .u8 ys)) A2 i .u8 ys rfl (by kernel_rfl) (by kernel_rfl) (tells_vw _ _) (by omega)) ?_
      have hb6 : 0 ≤ ys.getD ((i).toNat) 0 ∧ ys.getD ((i).toNat) 0 < 256 := hy.at_ _
      refine RunU.sl hU 8 (bm 9 511) 25 (.bool (!decide ((xs.getD (i).toNat 0) = (ys.getD (i).toNat 0)))) ?_
      refine RunU.ev [0, 1, 5, 25] [(0, .slice A xs.length c), (1, .slice A2 ys.length c2), (5, .int .i64 i), (25, .bool (!decide ((xs.getD (i).toNat 0) = (ys.getD (i).toNat 0))))] ?_
      refine RunU.dn ?_
      refine kseq_n ?_
      refine RunC.condn ((xs.getD (i).toNat 0) = (ys.getD (i).toNat 0)) (by kernel_rfl) (fun h7 => ?_) (fun h7 => ?_)
      · skip
        refine RunC.sr ?_
        refine RunR.sl hU [] 1 1 [0, 1, 4, 5] [(0, .slice A xs.length c), (1, .slice A2 ys.length c2), (4, .bool false), (5, .int .i64 i)] 1 ?_
        refine RunR.nn ?_
        refine RunC.ret ?_
        refine kblock_r ?_
        refine kseq_r ?_
        refine kloop_r ?_
        refine kblock_r ?_
        refine kseq_r ?_
        refine kret_r [.bool false] [] [] ⟨rfl, trivial⟩ (by kernel_rfl) rfl ⟨(by (exact congrArg Value.bool (decide_eq_false (ne_of_getD (by assumption))).symm)), (by rfl)⟩
      · skip
        refine RunC.skip ?_
        refine kblock_n ?_
        refine kseq_n ?_
        refine RunC.region ?_
        refine RunR.sil hU [1] 3 3 [0, 1, 5] [(0, .slice A xs.length c), (1, .slice A2 ys.length c2), (5, .int .i64 (i + 1))] ((True) ∧ (-9223372036854775808 ≤ (i + 1) ∧ (i + 1) < 9223372036854775808) ∧ (True) ∧ True) rfl (by kernel_rfl) ⟨trivial, (by omega), trivial, trivial⟩ ?_
        refine RunR.dn ?_
        refine kloop_n _ [0, 1, 5] [0, 0] [(0, .slice A xs.length c), (1, .slice A2 ys.length c2), (5, .int .i64 (i + 1))] [vw A (nums .u8 xs), vw A2 (nums .u8 ys)] (by kernel_rfl) (by kernel_rfl) ?_ ⟨(i + 1), (by omega), (by assumption), (by rw [show (i + 1).toNat = i.toNat + 1 by omega]; exact (take_eq_succ (by omega) (by omega)).2 ⟨he, by omega⟩), rfl, (by rfl), (by rfl)⟩
        show ((xs.length - (i + 1)).toNat : Nat) < ((xs.length - i).toNat : Nat)
        omega
    · skip
      refine RunC.exit ?_
      refine kseq_e ?_
      refine kloop_e ?_
      refine kblock_e ?_
      refine kseq_n ?_
      refine RunC.sr ?_
      refine RunR.sl hU [] 1 1 [4] [(4, .bool true)] 1 ?_
      refine RunR.nn ?_
      refine RunC.ret ?_
      refine kret_r [.bool true] [] [] ⟨rfl, trivial⟩ (by kernel_rfl) rfl ⟨(by (exact congrArg Value.bool (decide_eq_true (eq_of_take (by omega) (by omega) he)).symm)), (by rfl)⟩

theorem b_Equal_spec (A7 : Option Addr) (c7 : Nat) (xs : List Int) (A8 : Option Addr) (c8 : Nat) (ys : List Int) (l_xs : Nat) (l_ys : Nat) (hIxs : In .u8 xs) (hIys : In .u8 ys) (hl_xs : xs.length = l_xs) (hl_ys : ys.length = l_ys) :
    CallsS Try.prog 85 [.slice A7 l_xs c7, .slice A8 l_ys c8] [vw A7 (nums .u8 xs), vw A8 (nums .u8 ys)] (fun r D => r = .bool (decide (xs = ys)) ∧ D = []) := by
  subst hl_xs
  subst hl_ys
  refine CallsS.enter hU Try.f85 _ [.tmp 4] 10 Try.func85 rfl (by decide) rfl rfl (by kernel_rfl) fun w0 W => ?_
  refine RunC.know (p := 0 < xs.length → Option.isSome A7 = true) (fun _ _ w hs => vw_some hs 0 rfl (by (simp [nums_length]; done))) (fun hA1 => ?_)
  refine RunC.know (p := 0 < ys.length → Option.isSome A8 = true) (fun _ _ w hs => vw_some hs 1 rfl (by (simp [nums_length]; done))) (fun hA2 => ?_)
  refine RunC.sr ?_
  refine RunR.sl hU [] 1 1 [0, 1, 4] [(0, .slice A7 xs.length c7), (1, .slice A8 ys.length c8), (4, .bool false)] 1 ?_
  refine RunR.nx ?_
  refine RunR.sl hU [] 1 1 [1, 4, 5] [(1, .slice A8 ys.length c8), (4, .bool false), (5, .slice A7 xs.length c7)] 1 ?_
  refine RunR.st (some 6) (.convert 23 9 (.tmp 5)) (Step.bytes_str hU 5 0 (vw A7 (nums .u8 xs)) A7 xs.length c7 xs rfl rfl rfl (by kernel_rfl) (by kernel_rfl) (tells_vw _ _) (by rfl) (by kernel_rfl) ?_)
  refine RunR.sl hU [] 1 3 [4, 6, 7] [(4, .bool false), (6, .string (strOfNums xs)), (7, .slice A8 ys.length c8)] 1 ?_
  refine RunR.st (some 8) (.convert 23 9 (.tmp 7)) (Step.bytes_str hU 5 1 (vw A8 (nums .u8 ys)) A8 ys.length c8 ys rfl rfl rfl (by kernel_rfl) (by kernel_rfl) (tells_vw _ _) (by rfl) (by kernel_rfl) ?_)
  refine RunR.sl hU [] 2 6 [4] [(4, .bool (decide ((strOfNums xs) = (strOfNums ys))))] 2 ?_
  refine RunR.nn ?_
  refine RunC.ret ?_
  refine kret_r [.bool (decide ((strOfNums xs) = (strOfNums ys)))] [] [] ⟨rfl, trivial⟩ (by kernel_rfl) rfl ⟨(by (exact congrArg Value.bool (decide_eq_decide.2 ⟨strOfNums_inj hIxs hIys, fun e => by rw [e]⟩))), (by rfl)⟩

theorem b_HasPrefix_spec (A7 : Option Addr) (c7 : Nat) (xs : List Int) (A8 : Option Addr) (c8 : Nat) (ys : List Int) (l_xs : Nat) (l_ys : Nat) (hIxs : In .u8 xs) (hIys : In .u8 ys) (hCxs : xs.length ≤ c7) (hl_xs : xs.length = l_xs) (hl_ys : ys.length = l_ys) :
    CallsS Try.prog 66 [.slice A7 l_xs c7, .slice A8 l_ys c8] [vw A7 (nums .u8 xs), vw A8 (nums .u8 ys)] (fun r D => r = .bool (decide (xs.take ys.length = ys)) ∧ D = []) := by
  subst hl_xs
  subst hl_ys
  refine CallsS.enter hU Try.f66 _ [.tmp 4] 18 Try.func66 rfl (by decide) rfl rfl (by kernel_rfl) fun w0 W => ?_
  refine RunC.know (p := 0 < xs.length → Option.isSome A7 = true) (fun _ _ w hs => vw_some hs 0 rfl (by (simp [nums_length]; done))) (fun hA1 => ?_)
  refine RunC.know (p := 0 < ys.length → Option.isSome A8 = true) (fun _ _ w hs => vw_some hs 1 rfl (by (simp [nums_length]; done))) (fun hA2 => ?_)
  refine RunC.sr ?_
  refine RunR.sl hU [] 1 1 [0, 1, 4] [(0, .slice A7 xs.length c7), (1, .slice A8 ys.length c8), (4, .bool false)] 1 ?_
  refine RunR.nx ?_
  refine RunR.sl hU [] 6 6 [0, 1, 4, 10] [(0, .slice A7 xs.length c7), (1, .slice A8 ys.length c8), (4, .bool false), (10, .bool (decide (((xs.length : Nat) : Int) ≥ ((ys.length : Nat) : Int))))] 6 ?_
  refine RunR.ev [0, 1, 4, 10] [(0, .slice A7 xs.length c7), (1, .slice A8 ys.length c8), (4, .bool false), (10, .bool (decide (((xs.length : Nat) : Int) ≥ ((ys.length : Nat) : Int))))] ?_
  by_cases h3 : ((xs.length : Nat) : Int) ≥ ((ys.length : Nat) : Int)
  · skip
    refine RunR.enveq [(0, .slice A7 xs.length c7), (1, .slice A8 ys.length c8), (4, .bool false), (10, .bool true)] (by rw [decide_eq_true h3]; try rfl) ?_
    refine RunR.sil hU [] 4 10 [1, 4, 10, 14] [(1, .slice A8 ys.length c8), (4, .bool false), (10, .bool true), (14, .slice A7 ((((ys.length : Nat) : Int)).toNat) c7)] ((True) ∧ (True) ∧ (True) ∧ (0 ≤ ((ys.length : Nat) : Int) ∧ ((ys.length : Nat) : Int) ≤ ((c7 : Nat) : Int)) ∧ True) rfl (by kernel_rfl) ⟨trivial, trivial, trivial, (by omega), trivial⟩ ?_
    obtain ⟨zs4, hz5⟩ : ∃ z : List Int, z = xs.take ((((ys.length : Nat) : Int)).toNat) := ⟨_, rfl⟩
    have hl6 : zs4.length = ((((ys.length : Nat) : Int)).toNat) := by rw [hz5, List.length_take]; omega
    have hB7_t : Tells (vw A7 (nums .u8 xs)) (A7) (nums .u8 zs4) := by rw [hz5]; exact tells_take_nums (tells_vw _ _) _
    refine RunR.ev [1, 4, 10, 14] [(1, .slice A8 ys.length c8), (4, .bool false), (10, .bool true), (14, .slice A7 ((((ys.length : Nat) : Int)).toNat) c7)] ?_
    refine RunR.enveq [(1, .slice A8 ys.length c8), (4, .bool false), (10, .bool true), (14, .slice A7 zs4.length c7)] (by rw [hl6]) ?_
    have hr8 : In .u8 zs4 := by rw [hz5]; exact hIxs.take _
    refine RunR.sl hU [] 1 11 [4, 10, 14, 15] [(4, .bool false), (10, .bool true), (14, .slice A7 zs4.length c7), (15, .slice A8 ys.length c8)] 1 ?_
    refine RunR.st (some 16) (.call { callee := .value (.func 85), args := #[.tmp 14, .tmp 15], argTypes := #[23, 23] }) (Step.cl 85 [.slice A7 zs4.length c7, .slice A8 ys.length c8] [] [vw A7 (nums .u8 zs4), vw A8 (nums .u8 ys)] [vw A7 (nums .u8 xs), vw A8 (nums .u8 ys)] (b_Equal_spec A7 c7 zs4 A8 c8 ys zs4.length ys.length hr8 hIys (by rfl) (by rfl)) [] (((Lend.nil _).tells 1 (vw A8 (nums .u8 ys)) A8 (nums .u8 ys) (by kernel_rfl) (tells_vw _ _)).tells 0 (vw A7 (nums .u8 xs)) A7 (nums .u8 zs4) (by kernel_rfl) (hB7_t)) ?_)
    rintro _ _ ⟨rfl, rfl⟩
    refine RunR.sl hU [] 2 14 [4] [(4, .bool (decide (zs4 = ys)))] 2 ?_
    refine RunR.nn ?_
    refine RunC.ret ?_
    refine kret_r [.bool (decide (zs4 = ys))] [] [] ⟨rfl, trivial⟩ (by kernel_rfl) rfl ⟨(by (simp only [hz5]; rfl)), (by rfl)⟩
  · skip
    refine RunR.enveq [(0, .slice A7 xs.length c7), (1, .slice A8 ys.length c8), (4, .bool false), (10, .bool false)] (by rw [decide_eq_false h3]; try rfl) ?_
    refine RunR.sl hU [] 8 14 [4] [(4, .bool false)] 2 ?_
    refine RunR.nn ?_
    refine RunC.ret ?_
    refine kret_r [.bool false] [] [] ⟨rfl, trivial⟩ (by kernel_rfl) rfl ⟨(by (exact congrArg Value.bool (decide_eq_false (fun e => absurd (congrArg List.length e) (by rw [List.length_take]; omega))).symm)), (by rfl)⟩
end Go.Proofs.Ytaaplakahkgclaa.X1
