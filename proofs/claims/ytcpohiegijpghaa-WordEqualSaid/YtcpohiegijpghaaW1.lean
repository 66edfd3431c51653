/- What the functions of chapter 1 compute: a contract for each, walked through its code. -/
import Derived.Test.YtcpohiegijpghaaWPure
import Derived.Test.YtcpohiegijpghaaProg
namespace Go.Proofs.Ytcpohiegijpghaa.W1
open Go Go.Proofs.Ytcpohiegijpghaa.SL Go.Proofs.Ytcpohiegijpghaa.SL.W
set_option linter.unusedVariables false
set_option linter.unusedSimpArgs false
set_option maxRecDepth 100000
set_option maxHeartbeats 4000000
def U : Tab where
  und := [(3, .int .i64), (5, .int .u8), (9, .string), (22, .slice 5), (29, .int .u32), (31, .int .u64)]
  fld := []
  sz := [(3, 1), (5, 1), (9, 1), (22, 1), (29, 1), (31, 1)]
  ti := [(3, (1, 8, .int .i64 0)), (5, (1, 1, .int .u8 0)), (9, (1, 16, .string ⟨#[]⟩)), (22, (1, 24, .slice none 0 0)), (29, (1, 4, .int .u32 0)), (31, (1, 8, .int .u64 0))]

theorem hU : U.OK Try.prog where
  und := by
    intro p hp
    simp only [U, List.mem_cons, List.not_mem_nil, or_false] at hp
    rcases hp with rfl | rfl | rfl | rfl | rfl | rfl
    · exact Try.underlying3
    · exact Try.underlying5
    · exact Try.underlying9
    · exact Try.underlying22
    · exact Try.underlying29
    · exact Try.underlying31
  fld := by
    intro p hp; cases hp
  sz := by
    intro p hp
    simp only [U, List.mem_cons, List.not_mem_nil, or_false] at hp
    rcases hp with rfl | rfl | rfl | rfl | rfl | rfl
    · exact ⟨Try.prog.types[3]!, by kernel_rfl, by kernel_rfl⟩
    · exact ⟨Try.prog.types[5]!, by kernel_rfl, by kernel_rfl⟩
    · exact ⟨Try.prog.types[9]!, by kernel_rfl, by kernel_rfl⟩
    · exact ⟨Try.prog.types[22]!, by kernel_rfl, by kernel_rfl⟩
    · exact ⟨Try.prog.types[29]!, by kernel_rfl, by kernel_rfl⟩
    · exact ⟨Try.prog.types[31]!, by kernel_rfl, by kernel_rfl⟩
  ti := by
    intro p hp
    simp only [U, List.mem_cons, List.not_mem_nil, or_false] at hp
    rcases hp with rfl | rfl | rfl | rfl | rfl | rfl
    · exact ⟨Try.prog.types[3]!, by kernel_rfl, by kernel_rfl, by kernel_rfl, by kernel_rfl⟩
    · exact ⟨Try.prog.types[5]!, by kernel_rfl, by kernel_rfl, by kernel_rfl, by kernel_rfl⟩
    · exact ⟨Try.prog.types[9]!, by kernel_rfl, by kernel_rfl, by kernel_rfl, by kernel_rfl⟩
    · exact ⟨Try.prog.types[22]!, by kernel_rfl, by kernel_rfl, by kernel_rfl, by kernel_rfl⟩
    · exact ⟨Try.prog.types[29]!, by kernel_rfl, by kernel_rfl, by kernel_rfl, by kernel_rfl⟩
    · exact ⟨Try.prog.types[31]!, by kernel_rfl, by kernel_rfl, by kernel_rfl, by kernel_rfl⟩
  mixed := by kernel_rfl

theorem w_at_spec (A : Option Addr) (c : Nat) (xs : List Int) (i : Int) (l_xs : Nat) (hx : In .u8 xs) (h0 : 0 ≤ i) (hl_xs : xs.length = l_xs) :
    CallsS Try.prog 71 [.slice A l_xs c, .int .i64 i] [vw A (nums .u8 xs)] (fun r D => r = .int .u64 (xs.getD i.toNat 0) ∧ D = []) := by
  subst hl_xs
  refine CallsS.enter hU Try.f71 _ [.tmp 4] 14 Try.func71 rfl (by decide) rfl rfl (by kernel_rfl) fun w0 W => ?_
  refine RunC.know (p := 0 < xs.length → Option.isSome A = true) (fun w hs => vw_some hs 0 rfl (by simp [nums_length])) (fun hA1 => ?_)
  refine RunC.seq ?_
  refine RunC.region ?_
  refine RunR.sil hU [] 1 1 [0, 1, 4] [(0, .slice A xs.length c), (1, .int .i64 i), (4, .int .u64 0)] ((True) ∧ True) rfl (by kernel_rfl) ⟨trivial, trivial⟩ ?_
  refine RunR.done (by kernel_rfl) ?_
  refine kseq_n ?_
  refine RunC.seq ?_
  refine RunC.seq ?_
  refine RunC.region ?_
  refine RunR.sil hU [] 4 4 [0, 1, 4, 8] [(0, .slice A xs.length c), (1, .int .i64 i), (4, .int .u64 0), (8, .bool (decide (i < ((xs.length : Nat) : Int))))] ((True) ∧ (True) ∧ (True) ∧ (True) ∧ True) rfl (by kernel_rfl) ⟨trivial, trivial, trivial, trivial, trivial⟩ ?_
  refine RunR.done (by kernel_rfl) ?_
  refine kseq_n ?_
  refine RunC.condp (i < ((xs.length : Nat) : Int)) (by kernel_rfl) (fun h2 => ?_) (fun h2 => ?_)
  · skip
    refine RunC.seq ?_
    refine RunC.region ?_
    refine RunR.sil hU [] 3 3 [4, 11] [(4, .int .u64 0), (11, .pointer (elemAt A i 1))] ((True) ∧ (True) ∧ ((0 ≤ i ∧ i < ((xs.length : Nat) : Int)) ∧ Option.isSome A = true) ∧ True) rfl (by kernel_rfl) ⟨trivial, trivial, ⟨by omega, hA1 (by omega)⟩, trivial⟩ ?_
    refine RunR.step (dst := some 12) (op := .load 5 (.tmp 11)) (by kernel_rfl) (Step.load_num hU 0 (vw A (nums .u8 xs)) A i .u8 xs rfl (by kernel_rfl) (by kernel_rfl) (tells_vw _ _) (by kernel_rfl) (by omega) ?_)
    have hb3 : 0 ≤ xs.getD ((i).toNat) 0 ∧ xs.getD ((i).toNat) 0 < 256 := hx.at_ _
    refine RunR.sil hU [4] 2 6 [4] [(4, .int .u64 (xs.getD (i).toNat 0))] ((0 ≤ (xs.getD (i).toNat 0) ∧ (xs.getD (i).toNat 0) < 18446744073709551616) ∧ (True) ∧ True) rfl (by kernel_rfl) ⟨(by omega), trivial, trivial⟩ ?_
    refine RunR.done (by kernel_rfl) ?_
    refine kseq_n ?_
    refine RunC.ret ?_
    refine kseq_r ?_
    refine kret_r [.int .u64 (xs.getD (i).toNat 0)] [] [] ⟨rfl, trivial⟩ (by kernel_rfl) rfl ⟨(by first | rfl | (rw [getD_ge xs _ (by omega)]; rfl)), (by first | rfl | (rw [getD_ge xs _ (by omega)]; rfl))⟩
  · skip
    refine RunC.skip ?_
    refine kseq_n ?_
    refine RunC.seq ?_
    refine RunC.region ?_
    refine RunR.sil hU [] 1 1 [4] [(4, .int .u64 0)] ((True) ∧ True) rfl (by kernel_rfl) ⟨trivial, trivial⟩ ?_
    refine RunR.done (by kernel_rfl) ?_
    refine kseq_n ?_
    refine RunC.ret ?_
    refine kret_r [.int .u64 0] [] [] ⟨rfl, trivial⟩ (by kernel_rfl) rfl ⟨(by first | rfl | (rw [getD_ge xs _ (by omega)]; rfl)), (by first | rfl | (rw [getD_ge xs _ (by omega)]; rfl))⟩

theorem w_get_spec (A : Option Addr) (c : Nat) (xs : List Int) (n : Int) (l_xs : Nat) (hx : In .u8 xs) (hn : xs.length ≤ 140737488351232) (h0 : 0 ≤ n) (h8 : n ≤ 8) (hl_xs : xs.length = l_xs) :
    CallsS Try.prog 58 [.slice A l_xs c, .int .i64 n] [vw A (nums .u8 xs)] (fun r D => r = .int .u64 (leN xs n.toNat) ∧ D = []) := by
  subst hl_xs
  refine CallsS.enter hU Try.f58 _ [.tmp 4] 21 Try.func58 rfl (by decide) rfl rfl (by kernel_rfl) fun w0 W => ?_
  refine RunC.know (p := 0 < xs.length → Option.isSome A = true) (fun w hs => vw_some hs 0 rfl (by simp [nums_length])) (fun hA1 => ?_)
  refine RunC.seq ?_
  refine RunC.region ?_
  refine RunR.sil hU [] 1 1 [0, 1, 4] [(0, .slice A xs.length c), (1, .int .i64 n), (4, .int .u64 0)] ((True) ∧ True) rfl (by kernel_rfl) ⟨trivial, trivial⟩ ?_
  refine RunR.done (by kernel_rfl) ?_
  refine kseq_n ?_
  refine RunC.seq ?_
  refine RunC.region ?_
  refine RunR.sil hU [] 1 1 [0, 1, 4, 5] [(0, .slice A xs.length c), (1, .int .i64 n), (4, .int .u64 0), (5, .int .u64 0)] ((True) ∧ True) rfl (by kernel_rfl) ⟨trivial, trivial⟩ ?_
  refine RunR.done (by kernel_rfl) ?_
  refine kseq_n ?_
  refine RunC.seq ?_
  refine RunC.seq ?_
  refine RunC.region ?_
  refine RunR.sil hU [] 2 2 [0, 4, 5, 7, 8] [(0, .slice A xs.length c), (4, .int .u64 0), (5, .int .u64 0), (7, .int .i64 n), (8, .int .i64 0)] ((True) ∧ (True) ∧ True) rfl (by kernel_rfl) ⟨trivial, trivial, trivial⟩ ?_
  refine RunR.done (by kernel_rfl) ?_
  refine kseq_n ?_
  refine RunC.block ?_
  refine RunC.env [0, 4, 5, 7, 8] [(0, .slice A xs.length c), (4, .int .u64 0), (5, .int .u64 0), (7, .int .i64 n), (8, .int .i64 0)] (by kernel_rfl) ?_
  refine RunC.only [0] [vw A (nums .u8 xs)] (by kernel_rfl) ?_
  refine RunC.loop (σ := Nat) (fun n_ t_ D_ => ∃ (i : Int) (v : Int), (0 ≤ i) ∧ (i ≤ n) ∧ (v = leN xs i.toNat) ∧ n_ = ((n - i).toNat : Nat) ∧ t_ = [(0, .slice A xs.length c), (4, .int .u64 0), (5, .int .u64 v), (7, .int .i64 n), (8, .int .i64 i)] ∧ D_ = [vw A (nums .u8 xs)]) id _ ⟨0, 0, (by first | assumption | omega | (simp only [List.length_append, List.length_cons, List.length_nil, List.length_set, List.length_replicate, List.length_take, List.length_drop]; omega) | (simp only [fits] at *; omega) | (simp only [List.length_append, List.length_cons, List.length_nil, List.length_set, List.length_replicate, List.length_take, List.length_drop] at *; omega) | (simp; done) | decide), (by first | assumption | omega | (simp only [List.length_append, List.length_cons, List.length_nil, List.length_set, List.length_replicate, List.length_take, List.length_drop]; omega) | (simp only [fits] at *; omega) | (simp only [List.length_append, List.length_cons, List.length_nil, List.length_set, List.length_replicate, List.length_take, List.length_drop] at *; omega) | (simp; done) | decide), (by rfl), rfl, rfl, rfl⟩ ?_
  rintro n_ _ _ ⟨i, v, hi, hin, hv, rfl, rfl, rfl⟩
  refine RunC.seq ?_
  refine RunC.region ?_
  refine RunR.sil hU [] 1 1 [0, 4, 5, 7, 8, 9] [(0, .slice A xs.length c), (4, .int .u64 0), (5, .int .u64 v), (7, .int .i64 n), (8, .int .i64 i), (9, .bool (decide (i < n)))] ((True) ∧ True) rfl (by kernel_rfl) ⟨trivial, trivial⟩ ?_
  refine RunR.done (by kernel_rfl) ?_
  refine kseq_n ?_
  refine RunC.seq ?_
  refine RunC.condp (i < n) (by kernel_rfl) (fun h2 => ?_) (fun h2 => ?_)
  · skip
    refine RunC.skip ?_
    refine kseq_n ?_
    refine RunC.seq ?_
    refine RunC.block ?_
    refine RunC.seq ?_
    refine RunC.region ?_
    refine RunR.sil hU [] 2 2 [0, 4, 5, 6, 7, 8] [(0, .slice A xs.length c), (4, .int .u64 0), (5, .int .u64 v), (6, .int .i64 i), (7, .int .i64 n), (8, .int .i64 i)] ((True) ∧ (True) ∧ True) rfl (by kernel_rfl) ⟨trivial, trivial, trivial⟩ ?_
    refine RunR.done (by kernel_rfl) ?_
    refine kseq_n ?_
    refine RunC.region ?_
    refine RunR.sil hU [] 3 3 [0, 4, 5, 6, 7, 8, 11, 12, 13] [(0, .slice A xs.length c), (4, .int .u64 0), (5, .int .u64 v), (6, .int .i64 i), (7, .int .i64 n), (8, .int .i64 i), (11, .int .u64 v), (12, .slice A xs.length c), (13, .int .i64 i)] ((True) ∧ (True) ∧ (True) ∧ True) rfl (by kernel_rfl) ⟨trivial, trivial, trivial, trivial⟩ ?_
    refine RunR.step (dst := some 14) (op := .call { callee := .value (.func 71), args := #[.tmp 12, .tmp 13], argTypes := #[22, 3] }) (by kernel_rfl) (Step.call 71 [.slice A xs.length c, .int .i64 i] (by kernel_rfl) (by kernel_rfl) [] [vw A (nums .u8 xs)] [vw A (nums .u8 xs)] (w_at_spec A c xs i xs.length hx (by first | assumption | omega | (simp only [List.length_append, List.length_cons, List.length_nil, List.length_set, List.length_replicate, List.length_take, List.length_drop]; omega) | (simp only [fits] at *; omega) | (simp only [List.length_append, List.length_cons, List.length_nil, List.length_set, List.length_replicate, List.length_take, List.length_drop] at *; omega) | (simp; done) | decide) (by first | rfl | assumption | omega | (simp only [List.length_append, List.length_cons, List.length_nil, List.length_set, List.length_replicate, List.length_take, List.length_drop]; omega) | (simp; done))) [] (by kernel_rfl) ((Lend.nil _).tells 0 (vw A (nums .u8 xs)) A (nums .u8 xs) (by kernel_rfl) (tells_vw _ _)) ?_)
    rintro _ _ ⟨rfl, rfl⟩
    refine RunR.sil hU [5] 5 9 [0, 4, 5, 7, 8] [(0, .slice A xs.length c), (4, .int .u64 0), (5, .int .u64 (bits2 .or .u64 v (IntKind.wrap .u64 ((xs.getD i.toNat 0) * 2 ^ (min (8 * i).toNat 64))))), (7, .int .i64 n), (8, .int .i64 i)] ((True) ∧ (-9223372036854775808 ≤ (8 * i) ∧ (8 * i) < 9223372036854775808) ∧ (0 ≤ (8 * i)) ∧ (True) ∧ (True) ∧ True) rfl (by kernel_rfl) ⟨trivial, (by omega), (by omega), trivial, trivial, trivial⟩ ?_
    refine RunR.done (by kernel_rfl) ?_
    refine kblock_n ?_
    refine kseq_n ?_
    refine RunC.region ?_
    refine RunR.sil hU [0] 2 2 [0, 4, 5, 7, 8] [(0, .slice A xs.length c), (4, .int .u64 0), (5, .int .u64 (bits2 .or .u64 v (IntKind.wrap .u64 ((xs.getD i.toNat 0) * 2 ^ (min (8 * i).toNat 64))))), (7, .int .i64 n), (8, .int .i64 (i + 1))] ((-9223372036854775808 ≤ (i + 1) ∧ (i + 1) < 9223372036854775808) ∧ (True) ∧ True) rfl (by kernel_rfl) ⟨(by omega), trivial, trivial⟩ ?_
    refine RunR.done (by kernel_rfl) ?_
    refine kloop_n _ [0, 4, 5, 7, 8] [0] [(0, .slice A xs.length c), (4, .int .u64 0), (5, .int .u64 (bits2 .or .u64 v (IntKind.wrap .u64 ((xs.getD i.toNat 0) * 2 ^ (min (8 * i).toNat 64))))), (7, .int .i64 n), (8, .int .i64 (i + 1))] [vw A (nums .u8 xs)] (by kernel_rfl) (by kernel_rfl) ?_ ⟨(i + 1), (bits2 .or .u64 v (IntKind.wrap .u64 ((xs.getD i.toNat 0) * 2 ^ (min (8 * i).toNat 64)))), (by first | assumption | omega | (simp only [List.length_append, List.length_cons, List.length_nil, List.length_set, List.length_replicate, List.length_take, List.length_drop]; omega) | (simp only [fits] at *; omega) | (simp only [List.length_append, List.length_cons, List.length_nil, List.length_set, List.length_replicate, List.length_take, List.length_drop] at *; omega) | (simp; done) | decide), (by first | assumption | omega | (simp only [List.length_append, List.length_cons, List.length_nil, List.length_set, List.length_replicate, List.length_take, List.length_drop]; omega) | (simp only [fits] at *; omega) | (simp only [List.length_append, List.length_cons, List.length_nil, List.length_set, List.length_replicate, List.length_take, List.length_drop] at *; omega) | (simp; done) | decide), (by rw [hv]; exact get_step hx i hi (by omega)), rfl, (by rfl), (by rfl)⟩
    show ((n - (i + 1)).toNat : Nat) < ((n - i).toNat : Nat)
    omega
  · skip
    refine RunC.exit ?_
    refine kseq_e ?_
    refine kloop_e ?_
    refine kblock_e ?_
    refine kseq_n ?_
    refine RunC.seq ?_
    refine RunC.region ?_
    refine RunR.sil hU [] 2 2 [4] [(4, .int .u64 v)] ((True) ∧ (True) ∧ True) rfl (by kernel_rfl) ⟨trivial, trivial, trivial⟩ ?_
    refine RunR.done (by kernel_rfl) ?_
    refine kseq_n ?_
    refine RunC.ret ?_
    refine kret_r [.int .u64 v] [] [] ⟨rfl, trivial⟩ (by kernel_rfl) rfl ⟨(by first | rfl | (rw [show n = i by omega, hv]; rfl)), (by first | rfl | (rw [show n = i by omega, hv]; rfl))⟩

theorem w_getBig_spec (A : Option Addr) (c : Nat) (xs : List Int) (n : Int) (l_xs : Nat) (hx : In .u8 xs) (hn : xs.length ≤ 140737488351232) (h0 : 0 ≤ n) (h8 : n ≤ 8) (hl_xs : xs.length = l_xs) :
    CallsS Try.prog 59 [.slice A l_xs c, .int .i64 n] [vw A (nums .u8 xs)] (fun r D => r = .int .u64 (beN xs n.toNat) ∧ D = []) := by
  subst hl_xs
  refine CallsS.enter hU Try.f59 _ [.tmp 4] 19 Try.func59 rfl (by decide) rfl rfl (by kernel_rfl) fun w0 W => ?_
  refine RunC.know (p := 0 < xs.length → Option.isSome A = true) (fun w hs => vw_some hs 0 rfl (by simp [nums_length])) (fun hA1 => ?_)
  refine RunC.seq ?_
  refine RunC.region ?_
  refine RunR.sil hU [] 1 1 [0, 1, 4] [(0, .slice A xs.length c), (1, .int .i64 n), (4, .int .u64 0)] ((True) ∧ True) rfl (by kernel_rfl) ⟨trivial, trivial⟩ ?_
  refine RunR.done (by kernel_rfl) ?_
  refine kseq_n ?_
  refine RunC.seq ?_
  refine RunC.region ?_
  refine RunR.sil hU [] 1 1 [0, 1, 4, 5] [(0, .slice A xs.length c), (1, .int .i64 n), (4, .int .u64 0), (5, .int .u64 0)] ((True) ∧ True) rfl (by kernel_rfl) ⟨trivial, trivial⟩ ?_
  refine RunR.done (by kernel_rfl) ?_
  refine kseq_n ?_
  refine RunC.seq ?_
  refine RunC.seq ?_
  refine RunC.region ?_
  refine RunR.sil hU [] 2 2 [0, 4, 5, 7, 8] [(0, .slice A xs.length c), (4, .int .u64 0), (5, .int .u64 0), (7, .int .i64 n), (8, .int .i64 0)] ((True) ∧ (True) ∧ True) rfl (by kernel_rfl) ⟨trivial, trivial, trivial⟩ ?_
  refine RunR.done (by kernel_rfl) ?_
  refine kseq_n ?_
  refine RunC.block ?_
  refine RunC.env [0, 4, 5, 7, 8] [(0, .slice A xs.length c), (4, .int .u64 0), (5, .int .u64 0), (7, .int .i64 n), (8, .int .i64 0)] (by kernel_rfl) ?_
  refine RunC.only [0] [vw A (nums .u8 xs)] (by kernel_rfl) ?_
  refine RunC.loop (σ := Nat) (fun n_ t_ D_ => ∃ (i : Int) (v : Int), (0 ≤ i) ∧ (i ≤ n) ∧ (v = beN xs i.toNat) ∧ n_ = ((n - i).toNat : Nat) ∧ t_ = [(0, .slice A xs.length c), (4, .int .u64 0), (5, .int .u64 v), (7, .int .i64 n), (8, .int .i64 i)] ∧ D_ = [vw A (nums .u8 xs)]) id _ ⟨0, 0, (by first | assumption | omega | (simp only [List.length_append, List.length_cons, List.length_nil, List.length_set, List.length_replicate, List.length_take, List.length_drop]; omega) | (simp only [fits] at *; omega) | (simp only [List.length_append, List.length_cons, List.length_nil, List.length_set, List.length_replicate, List.length_take, List.length_drop] at *; omega) | (simp; done) | decide), (by first | assumption | omega | (simp only [List.length_append, List.length_cons, List.length_nil, List.length_set, List.length_replicate, List.length_take, List.length_drop]; omega) | (simp only [fits] at *; omega) | (simp only [List.length_append, List.length_cons, List.length_nil, List.length_set, List.length_replicate, List.length_take, List.length_drop] at *; omega) | (simp; done) | decide), (by rfl), rfl, rfl, rfl⟩ ?_
  rintro n_ _ _ ⟨i, v, hi, hin, hv, rfl, rfl, rfl⟩
  refine RunC.seq ?_
  refine RunC.region ?_
  refine RunR.sil hU [] 1 1 [0, 4, 5, 7, 8, 9] [(0, .slice A xs.length c), (4, .int .u64 0), (5, .int .u64 v), (7, .int .i64 n), (8, .int .i64 i), (9, .bool (decide (i < n)))] ((True) ∧ True) rfl (by kernel_rfl) ⟨trivial, trivial⟩ ?_
  refine RunR.done (by kernel_rfl) ?_
  refine kseq_n ?_
  refine RunC.seq ?_
  refine RunC.condp (i < n) (by kernel_rfl) (fun h2 => ?_) (fun h2 => ?_)
  · skip
    refine RunC.skip ?_
    refine kseq_n ?_
    refine RunC.seq ?_
    refine RunC.block ?_
    refine RunC.seq ?_
    refine RunC.region ?_
    refine RunR.sil hU [] 2 2 [0, 4, 5, 6, 7, 8] [(0, .slice A xs.length c), (4, .int .u64 0), (5, .int .u64 v), (6, .int .i64 i), (7, .int .i64 n), (8, .int .i64 i)] ((True) ∧ (True) ∧ True) rfl (by kernel_rfl) ⟨trivial, trivial, trivial⟩ ?_
    refine RunR.done (by kernel_rfl) ?_
    refine kseq_n ?_
    refine RunC.region ?_
    refine RunR.sil hU [] 4 4 [0, 4, 5, 7, 8, 12, 13, 14] [(0, .slice A xs.length c), (4, .int .u64 0), (5, .int .u64 v), (7, .int .i64 n), (8, .int .i64 i), (12, .int .u64 (IntKind.wrap .u64 (v * 2 ^ 8))), (13, .slice A xs.length c), (14, .int .i64 i)] ((True) ∧ (0 ≤ (8 : Int)) ∧ (True) ∧ (True) ∧ True) rfl (by kernel_rfl) ⟨trivial, (by omega), trivial, trivial, trivial⟩ ?_
    refine RunR.step (dst := some 15) (op := .call { callee := .value (.func 71), args := #[.tmp 13, .tmp 14], argTypes := #[22, 3] }) (by kernel_rfl) (Step.call 71 [.slice A xs.length c, .int .i64 i] (by kernel_rfl) (by kernel_rfl) [] [vw A (nums .u8 xs)] [vw A (nums .u8 xs)] (w_at_spec A c xs i xs.length hx (by first | assumption | omega | (simp only [List.length_append, List.length_cons, List.length_nil, List.length_set, List.length_replicate, List.length_take, List.length_drop]; omega) | (simp only [fits] at *; omega) | (simp only [List.length_append, List.length_cons, List.length_nil, List.length_set, List.length_replicate, List.length_take, List.length_drop] at *; omega) | (simp; done) | decide) (by first | rfl | assumption | omega | (simp only [List.length_append, List.length_cons, List.length_nil, List.length_set, List.length_replicate, List.length_take, List.length_drop]; omega) | (simp; done))) [] (by kernel_rfl) ((Lend.nil _).tells 0 (vw A (nums .u8 xs)) A (nums .u8 xs) (by kernel_rfl) (tells_vw _ _)) ?_)
    rintro _ _ ⟨rfl, rfl⟩
    refine RunR.sil hU [] 2 7 [0, 4, 5, 7, 8] [(0, .slice A xs.length c), (4, .int .u64 0), (5, .int .u64 (bits2 .or .u64 (IntKind.wrap .u64 (v * 2 ^ 8)) (xs.getD i.toNat 0))), (7, .int .i64 n), (8, .int .i64 i)] ((True) ∧ (True) ∧ True) rfl (by kernel_rfl) ⟨trivial, trivial, trivial⟩ ?_
    refine RunR.done (by kernel_rfl) ?_
    refine kblock_n ?_
    refine kseq_n ?_
    refine RunC.region ?_
    refine RunR.sil hU [0] 2 2 [0, 4, 5, 7, 8] [(0, .slice A xs.length c), (4, .int .u64 0), (5, .int .u64 (bits2 .or .u64 (IntKind.wrap .u64 (v * 2 ^ 8)) (xs.getD i.toNat 0))), (7, .int .i64 n), (8, .int .i64 (i + 1))] ((-9223372036854775808 ≤ (i + 1) ∧ (i + 1) < 9223372036854775808) ∧ (True) ∧ True) rfl (by kernel_rfl) ⟨(by omega), trivial, trivial⟩ ?_
    refine RunR.done (by kernel_rfl) ?_
    refine kloop_n _ [0, 4, 5, 7, 8] [0] [(0, .slice A xs.length c), (4, .int .u64 0), (5, .int .u64 (bits2 .or .u64 (IntKind.wrap .u64 (v * 2 ^ 8)) (xs.getD i.toNat 0))), (7, .int .i64 n), (8, .int .i64 (i + 1))] [vw A (nums .u8 xs)] (by kernel_rfl) (by kernel_rfl) ?_ ⟨(i + 1), (bits2 .or .u64 (IntKind.wrap .u64 (v * 2 ^ 8)) (xs.getD i.toNat 0)), (by first | assumption | omega | (simp only [List.length_append, List.length_cons, List.length_nil, List.length_set, List.length_replicate, List.length_take, List.length_drop]; omega) | (simp only [fits] at *; omega) | (simp only [List.length_append, List.length_cons, List.length_nil, List.length_set, List.length_replicate, List.length_take, List.length_drop] at *; omega) | (simp; done) | decide), (by first | assumption | omega | (simp only [List.length_append, List.length_cons, List.length_nil, List.length_set, List.length_replicate, List.length_take, List.length_drop]; omega) | (simp only [fits] at *; omega) | (simp only [List.length_append, List.length_cons, List.length_nil, List.length_set, List.length_replicate, List.length_take, List.length_drop] at *; omega) | (simp; done) | decide), (by rw [hv]; exact getBig_step hx i hi (by omega)), rfl, (by rfl), (by rfl)⟩
    show ((n - (i + 1)).toNat : Nat) < ((n - i).toNat : Nat)
    omega
  · skip
    refine RunC.exit ?_
    refine kseq_e ?_
    refine kloop_e ?_
    refine kblock_e ?_
    refine kseq_n ?_
    refine RunC.seq ?_
    refine RunC.region ?_
    refine RunR.sil hU [] 2 2 [4] [(4, .int .u64 v)] ((True) ∧ (True) ∧ True) rfl (by kernel_rfl) ⟨trivial, trivial, trivial⟩ ?_
    refine RunR.done (by kernel_rfl) ?_
    refine kseq_n ?_
    refine RunC.ret ?_
    refine kret_r [.int .u64 v] [] [] ⟨rfl, trivial⟩ (by kernel_rfl) rfl ⟨(by first | rfl | (rw [show n = i by omega, hv]; rfl)), (by first | rfl | (rw [show n = i by omega, hv]; rfl))⟩

theorem w_Get32_spec (A : Option Addr) (c : Nat) (xs : List Int) (l_xs : Nat) (hx : In .u8 xs) (hn : xs.length ≤ 140737488351232) (hl_xs : xs.length = l_xs) :
    CallsS Try.prog 19 [.slice A l_xs c] [vw A (nums .u8 xs)] (fun r D => r = .int .u32 (leN xs 4) ∧ D = []) := by
  subst hl_xs
  refine CallsS.enter hU Try.f19 _ [.tmp 2] 6 Try.func19 rfl (by decide) rfl rfl (by kernel_rfl) fun w0 W => ?_
  refine RunC.know (p := 0 < xs.length → Option.isSome A = true) (fun w hs => vw_some hs 0 rfl (by simp [nums_length])) (fun hA1 => ?_)
  refine RunC.seq ?_
  refine RunC.region ?_
  refine RunR.sil hU [] 1 1 [0, 2] [(0, .slice A xs.length c), (2, .int .u32 0)] ((True) ∧ True) rfl (by kernel_rfl) ⟨trivial, trivial⟩ ?_
  refine RunR.done (by kernel_rfl) ?_
  refine kseq_n ?_
  refine RunC.seq ?_
  refine RunC.region ?_
  refine RunR.sil hU [] 1 1 [2, 3] [(2, .int .u32 0), (3, .slice A xs.length c)] ((True) ∧ True) rfl (by kernel_rfl) ⟨trivial, trivial⟩ ?_
  refine RunR.step (dst := some 4) (op := .call { callee := .value (.func 58), args := #[.tmp 3, .const (.int .i64 4)], argTypes := #[22, 3] }) (by kernel_rfl) (Step.call 58 [.slice A xs.length c, .int .i64 4] (by kernel_rfl) (by kernel_rfl) [] [vw A (nums .u8 xs)] [vw A (nums .u8 xs)] (w_get_spec A c xs 4 xs.length hx (by first | assumption | omega | (simp only [List.length_append, List.length_cons, List.length_nil, List.length_set, List.length_replicate, List.length_take, List.length_drop]; omega) | (simp only [fits] at *; omega) | (simp only [List.length_append, List.length_cons, List.length_nil, List.length_set, List.length_replicate, List.length_take, List.length_drop] at *; omega) | (simp; done) | decide) (by first | assumption | omega | (simp only [List.length_append, List.length_cons, List.length_nil, List.length_set, List.length_replicate, List.length_take, List.length_drop]; omega) | (simp only [fits] at *; omega) | (simp only [List.length_append, List.length_cons, List.length_nil, List.length_set, List.length_replicate, List.length_take, List.length_drop] at *; omega) | (simp; done) | decide) (by first | assumption | omega | (simp only [List.length_append, List.length_cons, List.length_nil, List.length_set, List.length_replicate, List.length_take, List.length_drop]; omega) | (simp only [fits] at *; omega) | (simp only [List.length_append, List.length_cons, List.length_nil, List.length_set, List.length_replicate, List.length_take, List.length_drop] at *; omega) | (simp; done) | decide) (by first | rfl | assumption | omega | (simp only [List.length_append, List.length_cons, List.length_nil, List.length_set, List.length_replicate, List.length_take, List.length_drop]; omega) | (simp; done))) [] (by kernel_rfl) ((Lend.nil _).tells 0 (vw A (nums .u8 xs)) A (nums .u8 xs) (by kernel_rfl) (tells_vw _ _)) ?_)
  rintro _ _ ⟨rfl, rfl⟩
  refine RunR.sil hU [] 2 4 [2] [(2, .int .u32 (IntKind.wrap .u32 (leN xs (4 : Int).toNat)))] ((True) ∧ (True) ∧ True) rfl (by kernel_rfl) ⟨trivial, trivial, trivial⟩ ?_
  refine RunR.done (by kernel_rfl) ?_
  refine kseq_n ?_
  refine RunC.ret ?_
  refine kret_r [.int .u32 (IntKind.wrap .u32 (leN xs (4 : Int).toNat))] [] [] ⟨rfl, trivial⟩ (by kernel_rfl) rfl ⟨(by first | rfl | (exact congrArg (Value.int .u32) (wrap_u32 _ (leN_bd hx 4).1 (leN_bd hx 4).2))), (by first | rfl | (exact congrArg (Value.int .u32) (wrap_u32 _ (leN_bd hx 4).1 (leN_bd hx 4).2)))⟩

theorem w_Get64_spec (A : Option Addr) (c : Nat) (xs : List Int) (l_xs : Nat) (hx : In .u8 xs) (hn : xs.length ≤ 140737488351232) (hl_xs : xs.length = l_xs) :
    CallsS Try.prog 21 [.slice A l_xs c] [vw A (nums .u8 xs)] (fun r D => r = .int .u64 (leN xs 8) ∧ D = []) := by
  subst hl_xs
  refine CallsS.enter hU Try.f21 _ [.tmp 2] 5 Try.func21 rfl (by decide) rfl rfl (by kernel_rfl) fun w0 W => ?_
  refine RunC.know (p := 0 < xs.length → Option.isSome A = true) (fun w hs => vw_some hs 0 rfl (by simp [nums_length])) (fun hA1 => ?_)
  refine RunC.seq ?_
  refine RunC.region ?_
  refine RunR.sil hU [] 1 1 [0, 2] [(0, .slice A xs.length c), (2, .int .u64 0)] ((True) ∧ True) rfl (by kernel_rfl) ⟨trivial, trivial⟩ ?_
  refine RunR.done (by kernel_rfl) ?_
  refine kseq_n ?_
  refine RunC.seq ?_
  refine RunC.region ?_
  refine RunR.sil hU [] 1 1 [2, 3] [(2, .int .u64 0), (3, .slice A xs.length c)] ((True) ∧ True) rfl (by kernel_rfl) ⟨trivial, trivial⟩ ?_
  refine RunR.step (dst := some 4) (op := .call { callee := .value (.func 58), args := #[.tmp 3, .const (.int .i64 8)], argTypes := #[22, 3] }) (by kernel_rfl) (Step.call 58 [.slice A xs.length c, .int .i64 8] (by kernel_rfl) (by kernel_rfl) [] [vw A (nums .u8 xs)] [vw A (nums .u8 xs)] (w_get_spec A c xs 8 xs.length hx (by first | assumption | omega | (simp only [List.length_append, List.length_cons, List.length_nil, List.length_set, List.length_replicate, List.length_take, List.length_drop]; omega) | (simp only [fits] at *; omega) | (simp only [List.length_append, List.length_cons, List.length_nil, List.length_set, List.length_replicate, List.length_take, List.length_drop] at *; omega) | (simp; done) | decide) (by first | assumption | omega | (simp only [List.length_append, List.length_cons, List.length_nil, List.length_set, List.length_replicate, List.length_take, List.length_drop]; omega) | (simp only [fits] at *; omega) | (simp only [List.length_append, List.length_cons, List.length_nil, List.length_set, List.length_replicate, List.length_take, List.length_drop] at *; omega) | (simp; done) | decide) (by first | assumption | omega | (simp only [List.length_append, List.length_cons, List.length_nil, List.length_set, List.length_replicate, List.length_take, List.length_drop]; omega) | (simp only [fits] at *; omega) | (simp only [List.length_append, List.length_cons, List.length_nil, List.length_set, List.length_replicate, List.length_take, List.length_drop] at *; omega) | (simp; done) | decide) (by first | rfl | assumption | omega | (simp only [List.length_append, List.length_cons, List.length_nil, List.length_set, List.length_replicate, List.length_take, List.length_drop]; omega) | (simp; done))) [] (by kernel_rfl) ((Lend.nil _).tells 0 (vw A (nums .u8 xs)) A (nums .u8 xs) (by kernel_rfl) (tells_vw _ _)) ?_)
  rintro _ _ ⟨rfl, rfl⟩
  refine RunR.sil hU [] 1 3 [2] [(2, .int .u64 (leN xs (8 : Int).toNat))] ((True) ∧ True) rfl (by kernel_rfl) ⟨trivial, trivial⟩ ?_
  refine RunR.done (by kernel_rfl) ?_
  refine kseq_n ?_
  refine RunC.ret ?_
  refine kret_r [.int .u64 (leN xs (8 : Int).toNat)] [] [] ⟨rfl, trivial⟩ (by kernel_rfl) rfl ⟨rfl, rfl⟩

theorem w_GetBig32_spec (A : Option Addr) (c : Nat) (xs : List Int) (l_xs : Nat) (hx : In .u8 xs) (hn : xs.length ≤ 140737488351232) (hl_xs : xs.length = l_xs) :
    CallsS Try.prog 22 [.slice A l_xs c] [vw A (nums .u8 xs)] (fun r D => r = .int .u32 (beN xs 4) ∧ D = []) := by
  subst hl_xs
  refine CallsS.enter hU Try.f22 _ [.tmp 2] 6 Try.func22 rfl (by decide) rfl rfl (by kernel_rfl) fun w0 W => ?_
  refine RunC.know (p := 0 < xs.length → Option.isSome A = true) (fun w hs => vw_some hs 0 rfl (by simp [nums_length])) (fun hA1 => ?_)
  refine RunC.seq ?_
  refine RunC.region ?_
  refine RunR.sil hU [] 1 1 [0, 2] [(0, .slice A xs.length c), (2, .int .u32 0)] ((True) ∧ True) rfl (by kernel_rfl) ⟨trivial, trivial⟩ ?_
  refine RunR.done (by kernel_rfl) ?_
  refine kseq_n ?_
  refine RunC.seq ?_
  refine RunC.region ?_
  refine RunR.sil hU [] 1 1 [2, 3] [(2, .int .u32 0), (3, .slice A xs.length c)] ((True) ∧ True) rfl (by kernel_rfl) ⟨trivial, trivial⟩ ?_
  refine RunR.step (dst := some 4) (op := .call { callee := .value (.func 59), args := #[.tmp 3, .const (.int .i64 4)], argTypes := #[22, 3] }) (by kernel_rfl) (Step.call 59 [.slice A xs.length c, .int .i64 4] (by kernel_rfl) (by kernel_rfl) [] [vw A (nums .u8 xs)] [vw A (nums .u8 xs)] (w_getBig_spec A c xs 4 xs.length hx (by first | assumption | omega | (simp only [List.length_append, List.length_cons, List.length_nil, List.length_set, List.length_replicate, List.length_take, List.length_drop]; omega) | (simp only [fits] at *; omega) | (simp only [List.length_append, List.length_cons, List.length_nil, List.length_set, List.length_replicate, List.length_take, List.length_drop] at *; omega) | (simp; done) | decide) (by first | assumption | omega | (simp only [List.length_append, List.length_cons, List.length_nil, List.length_set, List.length_replicate, List.length_take, List.length_drop]; omega) | (simp only [fits] at *; omega) | (simp only [List.length_append, List.length_cons, List.length_nil, List.length_set, List.length_replicate, List.length_take, List.length_drop] at *; omega) | (simp; done) | decide) (by first | assumption | omega | (simp only [List.length_append, List.length_cons, List.length_nil, List.length_set, List.length_replicate, List.length_take, List.length_drop]; omega) | (simp only [fits] at *; omega) | (simp only [List.length_append, List.length_cons, List.length_nil, List.length_set, List.length_replicate, List.length_take, List.length_drop] at *; omega) | (simp; done) | decide) (by first | rfl | assumption | omega | (simp only [List.length_append, List.length_cons, List.length_nil, List.length_set, List.length_replicate, List.length_take, List.length_drop]; omega) | (simp; done))) [] (by kernel_rfl) ((Lend.nil _).tells 0 (vw A (nums .u8 xs)) A (nums .u8 xs) (by kernel_rfl) (tells_vw _ _)) ?_)
  rintro _ _ ⟨rfl, rfl⟩
  refine RunR.sil hU [] 2 4 [2] [(2, .int .u32 (IntKind.wrap .u32 (beN xs (4 : Int).toNat)))] ((True) ∧ (True) ∧ True) rfl (by kernel_rfl) ⟨trivial, trivial, trivial⟩ ?_
  refine RunR.done (by kernel_rfl) ?_
  refine kseq_n ?_
  refine RunC.ret ?_
  refine kret_r [.int .u32 (IntKind.wrap .u32 (beN xs (4 : Int).toNat))] [] [] ⟨rfl, trivial⟩ (by kernel_rfl) rfl ⟨(by first | rfl | (exact congrArg (Value.int .u32) (wrap_u32 _ (beN_bd hx 4).1 (beN_bd hx 4).2))), (by first | rfl | (exact congrArg (Value.int .u32) (wrap_u32 _ (beN_bd hx 4).1 (beN_bd hx 4).2)))⟩

theorem w_GetBig64_spec (A : Option Addr) (c : Nat) (xs : List Int) (l_xs : Nat) (hx : In .u8 xs) (hn : xs.length ≤ 140737488351232) (hl_xs : xs.length = l_xs) :
    CallsS Try.prog 24 [.slice A l_xs c] [vw A (nums .u8 xs)] (fun r D => r = .int .u64 (beN xs 8) ∧ D = []) := by
  subst hl_xs
  refine CallsS.enter hU Try.f24 _ [.tmp 2] 5 Try.func24 rfl (by decide) rfl rfl (by kernel_rfl) fun w0 W => ?_
  refine RunC.know (p := 0 < xs.length → Option.isSome A = true) (fun w hs => vw_some hs 0 rfl (by simp [nums_length])) (fun hA1 => ?_)
  refine RunC.seq ?_
  refine RunC.region ?_
  refine RunR.sil hU [] 1 1 [0, 2] [(0, .slice A xs.length c), (2, .int .u64 0)] ((True) ∧ True) rfl (by kernel_rfl) ⟨trivial, trivial⟩ ?_
  refine RunR.done (by kernel_rfl) ?_
  refine kseq_n ?_
  refine RunC.seq ?_
  refine RunC.region ?_
  refine RunR.sil hU [] 1 1 [2, 3] [(2, .int .u64 0), (3, .slice A xs.length c)] ((True) ∧ True) rfl (by kernel_rfl) ⟨trivial, trivial⟩ ?_
  refine RunR.step (dst := some 4) (op := .call { callee := .value (.func 59), args := #[.tmp 3, .const (.int .i64 8)], argTypes := #[22, 3] }) (by kernel_rfl) (Step.call 59 [.slice A xs.length c, .int .i64 8] (by kernel_rfl) (by kernel_rfl) [] [vw A (nums .u8 xs)] [vw A (nums .u8 xs)] (w_getBig_spec A c xs 8 xs.length hx (by first | assumption | omega | (simp only [List.length_append, List.length_cons, List.length_nil, List.length_set, List.length_replicate, List.length_take, List.length_drop]; omega) | (simp only [fits] at *; omega) | (simp only [List.length_append, List.length_cons, List.length_nil, List.length_set, List.length_replicate, List.length_take, List.length_drop] at *; omega) | (simp; done) | decide) (by first | assumption | omega | (simp only [List.length_append, List.length_cons, List.length_nil, List.length_set, List.length_replicate, List.length_take, List.length_drop]; omega) | (simp only [fits] at *; omega) | (simp only [List.length_append, List.length_cons, List.length_nil, List.length_set, List.length_replicate, List.length_take, List.length_drop] at *; omega) | (simp; done) | decide) (by first | assumption | omega | (simp only [List.length_append, List.length_cons, List.length_nil, List.length_set, List.length_replicate, List.length_take, List.length_drop]; omega) | (simp only [fits] at *; omega) | (simp only [List.length_append, List.length_cons, List.length_nil, List.length_set, List.length_replicate, List.length_take, List.length_drop] at *; omega) | (simp; done) | decide) (by first | rfl | assumption | omega | (simp only [List.length_append, List.length_cons, List.length_nil, List.length_set, List.length_replicate, List.length_take, List.length_drop]; omega) | (simp; done))) [] (by kernel_rfl) ((Lend.nil _).tells 0 (vw A (nums .u8 xs)) A (nums .u8 xs) (by kernel_rfl) (tells_vw _ _)) ?_)
  rintro _ _ ⟨rfl, rfl⟩
  refine RunR.sil hU [] 1 3 [2] [(2, .int .u64 (beN xs (8 : Int).toNat))] ((True) ∧ True) rfl (by kernel_rfl) ⟨trivial, trivial⟩ ?_
  refine RunR.done (by kernel_rfl) ?_
  refine kseq_n ?_
  refine RunC.ret ?_
  refine kret_r [.int .u64 (beN xs (8 : Int).toNat)] [] [] ⟨rfl, trivial⟩ (by kernel_rfl) rfl ⟨rfl, rfl⟩

theorem w_little_spec (v : Int) (n : Int) (hv0 : fits .u64 v) (h0 : 0 ≤ n) (h8 : n ≤ 8) :
    CallsS Try.prog 60 [.int .u64 v, .int .i64 n] [] (fun r D => ∃ (A : Option Addr) (c : Nat) (zs : List Int), r = .slice A zs.length c ∧ D = [row 5 1 (.slice A zs.length c) zs.length (nums .u8 zs)] ∧ (zs = leB v n.toNat) ∧ (zs.length = n.toNat) ∧ (In .u8 zs) ∧ (zs.length ≤ c) ∧ (0 < zs.length → Option.isSome A = true)) := by
  refine CallsS.enter hU Try.f60 _ [.tmp 4] 23 Try.func60 rfl (by decide) rfl rfl (by kernel_rfl) fun w0 W => ?_
  refine RunC.seq ?_
  refine RunC.region ?_
  refine RunR.sil hU [] 1 1 [0, 1, 4] [(0, .int .u64 v), (1, .int .i64 n), (4, .slice none 0 0)] ((True) ∧ True) rfl (by kernel_rfl) ⟨trivial, trivial⟩ ?_
  refine RunR.done (by kernel_rfl) ?_
  refine kseq_n ?_
  refine RunC.seq ?_
  refine RunC.region ?_
  refine RunR.sil hU [] 1 1 [0, 1, 4, 7] [(0, .int .u64 v), (1, .int .i64 n), (4, .slice none 0 0), (7, .int .i64 n)] ((True) ∧ True) rfl (by kernel_rfl) ⟨trivial, trivial⟩ ?_
  refine RunR.step (dst := some 8) (op := .makeSlice 22 (.tmp 7) (.tmp 7)) (by kernel_rfl) (Step.make_nums hU 5 1 .u8 .i64 .i64 (n) rfl rfl (by kernel_rfl) (by kernel_rfl) (by omega) (by omega) (by kernel_rfl) (fun b1 => ?_))
  have hl2 : (List.replicate ((n).toNat) (0 : Int)).length = (n).toNat := List.length_replicate
  refine RunR.sil hU [] 1 3 [0, 1, 4, 5] [(0, .int .u64 v), (1, .int .i64 n), (4, .slice none 0 0), (5, .slice (some ⟨b1, 0, none⟩) ((n).toNat) ((n).toNat))] ((True) ∧ True) rfl (by kernel_rfl) ⟨trivial, trivial⟩ ?_
  refine RunR.done (by kernel_rfl) ?_
  refine kseq_n ?_
  refine RunC.seq ?_
  refine RunC.seq ?_
  refine RunC.region ?_
  refine RunR.sil hU [] 2 2 [0, 4, 5, 9, 10] [(0, .int .u64 v), (4, .slice none 0 0), (5, .slice (some ⟨b1, 0, none⟩) ((n).toNat) ((n).toNat)), (9, .int .i64 n), (10, .int .i64 0)] ((True) ∧ (True) ∧ True) rfl (by kernel_rfl) ⟨trivial, trivial, trivial⟩ ?_
  refine RunR.done (by kernel_rfl) ?_
  refine kseq_n ?_
  refine RunC.block ?_
  refine RunC.env [0, 4, 5, 9, 10] [(0, .int .u64 v), (4, .slice none 0 0), (5, .slice (some ⟨b1, 0, none⟩) ((n).toNat) ((n).toNat)), (9, .int .i64 n), (10, .int .i64 0)] (by kernel_rfl) ?_
  refine RunC.only [0] [row 5 1 (.slice (some ⟨b1, 0, none⟩) ((n).toNat) ((n).toNat)) ((n).toNat) (nums .u8 (List.replicate ((n).toNat) (0 : Int)))] (by kernel_rfl) ?_
  refine RunC.loop (σ := Nat) (fun n_ t_ D_ => ∃ (i : Int) (zs : List Int) (A : Option Addr) (c : Nat), (0 ≤ i) ∧ (i ≤ n) ∧ (zs = leB v i.toNat ++ List.replicate (n - i).toNat (0 : Int)) ∧ (zs.length = n.toNat) ∧ (n.toNat ≤ c) ∧ (0 < n.toNat → Option.isSome A = true) ∧ n_ = ((n - i).toNat : Nat) ∧ t_ = [(0, .int .u64 v), (4, .slice none 0 0), (5, .slice A n.toNat c), (9, .int .i64 n), (10, .int .i64 i)] ∧ D_ = [row 5 1 (.slice A n.toNat c) n.toNat (nums .u8 zs)]) id _ ⟨0, (List.replicate ((n).toNat) (0 : Int)), (some ⟨b1, 0, none⟩), ((n).toNat), (by first | assumption | omega | (simp only [List.length_append, List.length_cons, List.length_nil, List.length_set, List.length_replicate, List.length_take, List.length_drop]; omega) | (simp only [fits] at *; omega) | (simp only [List.length_append, List.length_cons, List.length_nil, List.length_set, List.length_replicate, List.length_take, List.length_drop] at *; omega) | (simp; done) | decide), (by first | assumption | omega | (simp only [List.length_append, List.length_cons, List.length_nil, List.length_set, List.length_replicate, List.length_take, List.length_drop]; omega) | (simp only [fits] at *; omega) | (simp only [List.length_append, List.length_cons, List.length_nil, List.length_set, List.length_replicate, List.length_take, List.length_drop] at *; omega) | (simp; done) | decide), (by simp [leB]), (by simp), (by exact Nat.le_refl _), (fun _ => rfl), rfl, rfl, rfl⟩ ?_
  rintro n_ _ _ ⟨i, zs, A, c, hi, hin, hz, hzl, hc, hA, rfl, rfl, rfl⟩
  refine RunC.seq ?_
  refine RunC.region ?_
  refine RunR.sil hU [] 1 1 [0, 4, 5, 9, 10, 11] [(0, .int .u64 v), (4, .slice none 0 0), (5, .slice A n.toNat c), (9, .int .i64 n), (10, .int .i64 i), (11, .bool (decide (i < n)))] ((True) ∧ True) rfl (by kernel_rfl) ⟨trivial, trivial⟩ ?_
  refine RunR.done (by kernel_rfl) ?_
  refine kseq_n ?_
  refine RunC.seq ?_
  refine RunC.condp (i < n) (by kernel_rfl) (fun h3 => ?_) (fun h3 => ?_)
  · skip
    refine RunC.skip ?_
    refine kseq_n ?_
    refine RunC.seq ?_
    refine RunC.block ?_
    refine RunC.seq ?_
    refine RunC.region ?_
    refine RunR.sil hU [] 2 2 [0, 4, 5, 6, 9, 10] [(0, .int .u64 v), (4, .slice none 0 0), (5, .slice A n.toNat c), (6, .int .i64 i), (9, .int .i64 n), (10, .int .i64 i)] ((True) ∧ (True) ∧ True) rfl (by kernel_rfl) ⟨trivial, trivial, trivial⟩ ?_
    refine RunR.done (by kernel_rfl) ?_
    refine kseq_n ?_
    refine RunC.region ?_
    refine RunR.sil hU [4, 5] 8 8 [0, 4, 5, 9, 10, 19, 20] [(0, .int .u64 v), (4, .slice none 0 0), (5, .slice A n.toNat c), (9, .int .i64 n), (10, .int .i64 i), (19, .int .u8 (IntKind.wrap .u8 (v / 2 ^ (min (8 * i).toNat 64)))), (20, .pointer (elemAt A i 1))] ((True) ∧ (True) ∧ (True) ∧ (True) ∧ (-9223372036854775808 ≤ (8 * i) ∧ (8 * i) < 9223372036854775808) ∧ (0 ≤ (8 * i)) ∧ (True) ∧ ((0 ≤ i ∧ i < ((n.toNat : Nat) : Int)) ∧ Option.isSome A = true) ∧ True) rfl (by kernel_rfl) ⟨trivial, trivial, trivial, trivial, (by omega), (by omega), trivial, ⟨by omega, hA (by omega)⟩, trivial⟩ ?_
    refine RunR.step (dst := none) (op := .store 5 (.tmp 20) (.tmp 19)) (by kernel_rfl) (Step.store_num hU 0 5 n.toNat c A .u8 zs i (IntKind.wrap .u8 (v / 2 ^ (min (8 * i).toNat 64))) (by kernel_rfl) (by kernel_rfl) (by kernel_rfl) rfl (by omega) ?_)
    have hl4 : (zs.set (i).toNat (IntKind.wrap .u8 (v / 2 ^ (min (8 * i).toNat 64)))).length = zs.length := List.length_set
    refine RunR.done (by kernel_rfl) ?_
    refine kblock_n ?_
    refine kseq_n ?_
    refine RunC.region ?_
    refine RunR.sil hU [0] 2 2 [0, 4, 5, 9, 10] [(0, .int .u64 v), (4, .slice none 0 0), (5, .slice A n.toNat c), (9, .int .i64 n), (10, .int .i64 (i + 1))] ((-9223372036854775808 ≤ (i + 1) ∧ (i + 1) < 9223372036854775808) ∧ (True) ∧ True) rfl (by kernel_rfl) ⟨(by omega), trivial, trivial⟩ ?_
    refine RunR.done (by kernel_rfl) ?_
    refine kloop_n _ [0, 4, 5, 9, 10] [0] [(0, .int .u64 v), (4, .slice none 0 0), (5, .slice A n.toNat c), (9, .int .i64 n), (10, .int .i64 (i + 1))] [row 5 1 (.slice A n.toNat c) n.toNat (nums .u8 (zs.set (i).toNat (IntKind.wrap .u8 (v / 2 ^ (min (8 * i).toNat 64)))))] (by kernel_rfl) (by kernel_rfl) ?_ ⟨(i + 1), (zs.set (i).toNat (IntKind.wrap .u8 (v / 2 ^ (min (8 * i).toNat 64)))), A, c, (by first | assumption | omega | (simp only [List.length_append, List.length_cons, List.length_nil, List.length_set, List.length_replicate, List.length_take, List.length_drop]; omega) | (simp only [fits] at *; omega) | (simp only [List.length_append, List.length_cons, List.length_nil, List.length_set, List.length_replicate, List.length_take, List.length_drop] at *; omega) | (simp; done) | decide), (by first | assumption | omega | (simp only [List.length_append, List.length_cons, List.length_nil, List.length_set, List.length_replicate, List.length_take, List.length_drop]; omega) | (simp only [fits] at *; omega) | (simp only [List.length_append, List.length_cons, List.length_nil, List.length_set, List.length_replicate, List.length_take, List.length_drop] at *; omega) | (simp; done) | decide), (by rw [hz]; exact little_step v n i hi (by omega) h8), (by simp [hzl]), (by exact hc), (by exact hA), rfl, (by rfl), (by rfl)⟩
    show ((n - (i + 1)).toNat : Nat) < ((n - i).toNat : Nat)
    omega
  · skip
    refine RunC.exit ?_
    refine kseq_e ?_
    refine kloop_e ?_
    refine kblock_e ?_
    refine kseq_n ?_
    refine RunC.seq ?_
    refine RunC.region ?_
    refine RunR.sil hU [] 2 2 [4] [(4, .slice A n.toNat c)] ((True) ∧ (True) ∧ True) rfl (by kernel_rfl) ⟨trivial, trivial, trivial⟩ ?_
    refine RunR.done (by kernel_rfl) ?_
    refine kseq_n ?_
    refine RunC.ret ?_
    refine kret_r [.slice A n.toNat c] [0] [row 5 1 (.slice A n.toNat c) n.toNat (nums .u8 zs)] ⟨rfl, trivial⟩ (by kernel_rfl) rfl ⟨A, c, zs, (by first | rfl | (simp only [hzl, retv])), (by first | rfl | (simp only [hzl, retv])), (by rw [hz, show i = n by omega]; simp), (by exact hzl), (by rw [hz]; first | exact In.append (leB_in _ _) (In.replicate _ _) | exact In.append (In.replicate _ _) (In.rev (leB_in _ _))), (by rw [hzl]; exact hc), (by rw [hzl]; exact hA)⟩

theorem w_big_spec (v : Int) (n : Int) (hv0 : fits .u64 v) (h0 : 0 ≤ n) (h8 : n ≤ 8) :
    CallsS Try.prog 61 [.int .u64 v, .int .i64 n] [] (fun r D => ∃ (A : Option Addr) (c : Nat) (zs : List Int), r = .slice A zs.length c ∧ D = [row 5 1 (.slice A zs.length c) zs.length (nums .u8 zs)] ∧ (zs = (leB v n.toNat).reverse) ∧ (zs.length = n.toNat) ∧ (In .u8 zs) ∧ (zs.length ≤ c) ∧ (0 < zs.length → Option.isSome A = true)) := by
  refine CallsS.enter hU Try.f61 _ [.tmp 4] 26 Try.func61 rfl (by decide) rfl rfl (by kernel_rfl) fun w0 W => ?_
  refine RunC.seq ?_
  refine RunC.region ?_
  refine RunR.sil hU [] 1 1 [0, 1, 4] [(0, .int .u64 v), (1, .int .i64 n), (4, .slice none 0 0)] ((True) ∧ True) rfl (by kernel_rfl) ⟨trivial, trivial⟩ ?_
  refine RunR.done (by kernel_rfl) ?_
  refine kseq_n ?_
  refine RunC.seq ?_
  refine RunC.region ?_
  refine RunR.sil hU [] 1 1 [0, 1, 4, 7] [(0, .int .u64 v), (1, .int .i64 n), (4, .slice none 0 0), (7, .int .i64 n)] ((True) ∧ True) rfl (by kernel_rfl) ⟨trivial, trivial⟩ ?_
  refine RunR.step (dst := some 8) (op := .makeSlice 22 (.tmp 7) (.tmp 7)) (by kernel_rfl) (Step.make_nums hU 5 1 .u8 .i64 .i64 (n) rfl rfl (by kernel_rfl) (by kernel_rfl) (by omega) (by omega) (by kernel_rfl) (fun b1 => ?_))
  have hl2 : (List.replicate ((n).toNat) (0 : Int)).length = (n).toNat := List.length_replicate
  refine RunR.sil hU [] 1 3 [0, 1, 4, 5] [(0, .int .u64 v), (1, .int .i64 n), (4, .slice none 0 0), (5, .slice (some ⟨b1, 0, none⟩) ((n).toNat) ((n).toNat))] ((True) ∧ True) rfl (by kernel_rfl) ⟨trivial, trivial⟩ ?_
  refine RunR.done (by kernel_rfl) ?_
  refine kseq_n ?_
  refine RunC.seq ?_
  refine RunC.seq ?_
  refine RunC.region ?_
  refine RunR.sil hU [] 2 2 [0, 1, 4, 5, 9, 10] [(0, .int .u64 v), (1, .int .i64 n), (4, .slice none 0 0), (5, .slice (some ⟨b1, 0, none⟩) ((n).toNat) ((n).toNat)), (9, .int .i64 n), (10, .int .i64 0)] ((True) ∧ (True) ∧ True) rfl (by kernel_rfl) ⟨trivial, trivial, trivial⟩ ?_
  refine RunR.done (by kernel_rfl) ?_
  refine kseq_n ?_
  refine RunC.block ?_
  refine RunC.env [0, 1, 4, 5, 9, 10] [(0, .int .u64 v), (1, .int .i64 n), (4, .slice none 0 0), (5, .slice (some ⟨b1, 0, none⟩) ((n).toNat) ((n).toNat)), (9, .int .i64 n), (10, .int .i64 0)] (by kernel_rfl) ?_
  refine RunC.only [0] [row 5 1 (.slice (some ⟨b1, 0, none⟩) ((n).toNat) ((n).toNat)) ((n).toNat) (nums .u8 (List.replicate ((n).toNat) (0 : Int)))] (by kernel_rfl) ?_
  refine RunC.loop (σ := Nat) (fun n_ t_ D_ => ∃ (i : Int) (zs : List Int) (A : Option Addr) (c : Nat), (0 ≤ i) ∧ (i ≤ n) ∧ (zs = List.replicate (n - i).toNat (0 : Int) ++ (leB v i.toNat).reverse) ∧ (zs.length = n.toNat) ∧ (n.toNat ≤ c) ∧ (0 < n.toNat → Option.isSome A = true) ∧ n_ = ((n - i).toNat : Nat) ∧ t_ = [(0, .int .u64 v), (1, .int .i64 n), (4, .slice none 0 0), (5, .slice A n.toNat c), (9, .int .i64 n), (10, .int .i64 i)] ∧ D_ = [row 5 1 (.slice A n.toNat c) n.toNat (nums .u8 zs)]) id _ ⟨0, (List.replicate ((n).toNat) (0 : Int)), (some ⟨b1, 0, none⟩), ((n).toNat), (by first | assumption | omega | (simp only [List.length_append, List.length_cons, List.length_nil, List.length_set, List.length_replicate, List.length_take, List.length_drop]; omega) | (simp only [fits] at *; omega) | (simp only [List.length_append, List.length_cons, List.length_nil, List.length_set, List.length_replicate, List.length_take, List.length_drop] at *; omega) | (simp; done) | decide), (by first | assumption | omega | (simp only [List.length_append, List.length_cons, List.length_nil, List.length_set, List.length_replicate, List.length_take, List.length_drop]; omega) | (simp only [fits] at *; omega) | (simp only [List.length_append, List.length_cons, List.length_nil, List.length_set, List.length_replicate, List.length_take, List.length_drop] at *; omega) | (simp; done) | decide), (by simp [leB]), (by simp), (by exact Nat.le_refl _), (fun _ => rfl), rfl, rfl, rfl⟩ ?_
  rintro n_ _ _ ⟨i, zs, A, c, hi, hin, hz, hzl, hc, hA, rfl, rfl, rfl⟩
  refine RunC.seq ?_
  refine RunC.region ?_
  refine RunR.sil hU [] 1 1 [0, 1, 4, 5, 9, 10, 11] [(0, .int .u64 v), (1, .int .i64 n), (4, .slice none 0 0), (5, .slice A n.toNat c), (9, .int .i64 n), (10, .int .i64 i), (11, .bool (decide (i < n)))] ((True) ∧ True) rfl (by kernel_rfl) ⟨trivial, trivial⟩ ?_
  refine RunR.done (by kernel_rfl) ?_
  refine kseq_n ?_
  refine RunC.seq ?_
  refine RunC.condp (i < n) (by kernel_rfl) (fun h3 => ?_) (fun h3 => ?_)
  · skip
    refine RunC.skip ?_
    refine kseq_n ?_
    refine RunC.seq ?_
    refine RunC.block ?_
    refine RunC.seq ?_
    refine RunC.region ?_
    refine RunR.sil hU [] 2 2 [0, 1, 4, 5, 6, 9, 10] [(0, .int .u64 v), (1, .int .i64 n), (4, .slice none 0 0), (5, .slice A n.toNat c), (6, .int .i64 i), (9, .int .i64 n), (10, .int .i64 i)] ((True) ∧ (True) ∧ True) rfl (by kernel_rfl) ⟨trivial, trivial, trivial⟩ ?_
    refine RunR.done (by kernel_rfl) ?_
    refine kseq_n ?_
    refine RunC.region ?_
    refine RunR.sil hU [2, 4, 7, 8] 11 11 [0, 1, 4, 5, 9, 10, 22, 23] [(0, .int .u64 v), (1, .int .i64 n), (4, .slice none 0 0), (5, .slice A n.toNat c), (9, .int .i64 n), (10, .int .i64 i), (22, .int .u8 (IntKind.wrap .u8 (v / 2 ^ (min (8 * i).toNat 64)))), (23, .pointer (elemAt A ((n - 1) - i) 1))] ((True) ∧ (True) ∧ (-9223372036854775808 ≤ (n - 1) ∧ (n - 1) < 9223372036854775808) ∧ (True) ∧ (-9223372036854775808 ≤ ((n - 1) - i) ∧ ((n - 1) - i) < 9223372036854775808) ∧ (True) ∧ (True) ∧ (-9223372036854775808 ≤ (8 * i) ∧ (8 * i) < 9223372036854775808) ∧ (0 ≤ (8 * i)) ∧ (True) ∧ ((0 ≤ ((n - 1) - i) ∧ ((n - 1) - i) < ((n.toNat : Nat) : Int)) ∧ Option.isSome A = true) ∧ True) rfl (by kernel_rfl) ⟨trivial, trivial, (by omega), trivial, (by omega), trivial, trivial, (by omega), (by omega), trivial, ⟨by omega, hA (by omega)⟩, trivial⟩ ?_
    refine RunR.step (dst := none) (op := .store 5 (.tmp 23) (.tmp 22)) (by kernel_rfl) (Step.store_num hU 0 5 n.toNat c A .u8 zs ((n - 1) - i) (IntKind.wrap .u8 (v / 2 ^ (min (8 * i).toNat 64))) (by kernel_rfl) (by kernel_rfl) (by kernel_rfl) rfl (by omega) ?_)
    have hl4 : (zs.set ((n - 1) - i).toNat (IntKind.wrap .u8 (v / 2 ^ (min (8 * i).toNat 64)))).length = zs.length := List.length_set
    refine RunR.done (by kernel_rfl) ?_
    refine kblock_n ?_
    refine kseq_n ?_
    refine RunC.region ?_
    refine RunR.sil hU [0] 2 2 [0, 1, 4, 5, 9, 10] [(0, .int .u64 v), (1, .int .i64 n), (4, .slice none 0 0), (5, .slice A n.toNat c), (9, .int .i64 n), (10, .int .i64 (i + 1))] ((-9223372036854775808 ≤ (i + 1) ∧ (i + 1) < 9223372036854775808) ∧ (True) ∧ True) rfl (by kernel_rfl) ⟨(by omega), trivial, trivial⟩ ?_
    refine RunR.done (by kernel_rfl) ?_
    refine kloop_n _ [0, 1, 4, 5, 9, 10] [0] [(0, .int .u64 v), (1, .int .i64 n), (4, .slice none 0 0), (5, .slice A n.toNat c), (9, .int .i64 n), (10, .int .i64 (i + 1))] [row 5 1 (.slice A n.toNat c) n.toNat (nums .u8 (zs.set ((n - 1) - i).toNat (IntKind.wrap .u8 (v / 2 ^ (min (8 * i).toNat 64)))))] (by kernel_rfl) (by kernel_rfl) ?_ ⟨(i + 1), (zs.set ((n - 1) - i).toNat (IntKind.wrap .u8 (v / 2 ^ (min (8 * i).toNat 64)))), A, c, (by first | assumption | omega | (simp only [List.length_append, List.length_cons, List.length_nil, List.length_set, List.length_replicate, List.length_take, List.length_drop]; omega) | (simp only [fits] at *; omega) | (simp only [List.length_append, List.length_cons, List.length_nil, List.length_set, List.length_replicate, List.length_take, List.length_drop] at *; omega) | (simp; done) | decide), (by first | assumption | omega | (simp only [List.length_append, List.length_cons, List.length_nil, List.length_set, List.length_replicate, List.length_take, List.length_drop]; omega) | (simp only [fits] at *; omega) | (simp only [List.length_append, List.length_cons, List.length_nil, List.length_set, List.length_replicate, List.length_take, List.length_drop] at *; omega) | (simp; done) | decide), (by rw [hz]; exact big_step v n i hi (by omega) h8), (by simp [hzl]), (by exact hc), (by exact hA), rfl, (by rfl), (by rfl)⟩
    show ((n - (i + 1)).toNat : Nat) < ((n - i).toNat : Nat)
    omega
  · skip
    refine RunC.exit ?_
    refine kseq_e ?_
    refine kloop_e ?_
    refine kblock_e ?_
    refine kseq_n ?_
    refine RunC.seq ?_
    refine RunC.region ?_
    refine RunR.sil hU [] 2 2 [4] [(4, .slice A n.toNat c)] ((True) ∧ (True) ∧ True) rfl (by kernel_rfl) ⟨trivial, trivial, trivial⟩ ?_
    refine RunR.done (by kernel_rfl) ?_
    refine kseq_n ?_
    refine RunC.ret ?_
    refine kret_r [.slice A n.toNat c] [0] [row 5 1 (.slice A n.toNat c) n.toNat (nums .u8 zs)] ⟨rfl, trivial⟩ (by kernel_rfl) rfl ⟨A, c, zs, (by first | rfl | (simp only [hzl, retv])), (by first | rfl | (simp only [hzl, retv])), (by rw [hz, show i = n by omega]; simp), (by exact hzl), (by rw [hz]; first | exact In.append (leB_in _ _) (In.replicate _ _) | exact In.append (In.replicate _ _) (In.rev (leB_in _ _))), (by rw [hzl]; exact hc), (by rw [hzl]; exact hA)⟩

theorem w_Put32_spec (v : Int) (hv0 : fits .u32 v) :
    CallsS Try.prog 27 [.int .u32 v] [] (fun r D => ∃ (A : Option Addr) (c : Nat) (zs : List Int), r = .slice A zs.length c ∧ D = [row 5 1 (.slice A zs.length c) zs.length (nums .u8 zs)] ∧ (zs = leB v 4) ∧ (zs.length = 4) ∧ (In .u8 zs) ∧ (zs.length ≤ c) ∧ (0 < zs.length → Option.isSome A = true)) := by
  refine CallsS.enter hU Try.f27 _ [.tmp 2] 6 Try.func27 rfl (by decide) rfl rfl (by kernel_rfl) fun w0 W => ?_
  have hvb := hv0; simp only [fits] at hvb
  refine RunC.seq ?_
  refine RunC.region ?_
  refine RunR.sil hU [] 1 1 [0, 2] [(0, .int .u32 v), (2, .slice none 0 0)] ((True) ∧ True) rfl (by kernel_rfl) ⟨trivial, trivial⟩ ?_
  refine RunR.done (by kernel_rfl) ?_
  refine kseq_n ?_
  refine RunC.seq ?_
  refine RunC.region ?_
  refine RunR.sil hU [1] 2 2 [2, 4] [(2, .slice none 0 0), (4, .int .u64 v)] ((True) ∧ (0 ≤ v ∧ v < 18446744073709551616) ∧ True) rfl (by kernel_rfl) ⟨trivial, (by omega), trivial⟩ ?_
  refine RunR.step (dst := some 5) (op := .call { callee := .value (.func 60), args := #[.tmp 4, .const (.int .i64 4)], argTypes := #[31, 3] }) (by kernel_rfl) (Step.call 60 [.int .u64 v, .int .i64 4] (by kernel_rfl) (by kernel_rfl) [] [] [] (w_little_spec v 4 (by first | assumption | exact fits_wrap _ _ | exact fits_bits2 _ _ _ _ | (refine ⟨?_, ?_⟩ <;> omega)) (by first | assumption | omega | (simp only [List.length_append, List.length_cons, List.length_nil, List.length_set, List.length_replicate, List.length_take, List.length_drop]; omega) | (simp only [fits] at *; omega) | (simp only [List.length_append, List.length_cons, List.length_nil, List.length_set, List.length_replicate, List.length_take, List.length_drop] at *; omega) | (simp; done) | decide) (by first | assumption | omega | (simp only [List.length_append, List.length_cons, List.length_nil, List.length_set, List.length_replicate, List.length_take, List.length_drop]; omega) | (simp only [fits] at *; omega) | (simp only [List.length_append, List.length_cons, List.length_nil, List.length_set, List.length_replicate, List.length_take, List.length_drop] at *; omega) | (simp; done) | decide)) [] (by kernel_rfl) (Lend.nil _) ?_)
  rintro _ _ ⟨A1, c2, zs3, rfl, rfl, hp4, hp5, hp6, hp7, hp8⟩
  refine RunR.sil hU [] 1 4 [2] [(2, .slice A1 zs3.length c2)] ((True) ∧ True) rfl (by kernel_rfl) ⟨trivial, trivial⟩ ?_
  refine RunR.done (by kernel_rfl) ?_
  refine kseq_n ?_
  refine RunC.ret ?_
  refine kret_r [.slice A1 zs3.length c2] [0] [row 5 1 (.slice A1 zs3.length c2) zs3.length (nums .u8 zs3)] ⟨rfl, trivial⟩ (by kernel_rfl) rfl ⟨A1, c2, zs3, rfl, rfl, (by first | assumption | omega | (simp only [List.length_append, List.length_cons, List.length_nil, List.length_set, List.length_replicate, List.length_take, List.length_drop]; omega) | (simp only [fits] at *; omega) | (simp only [List.length_append, List.length_cons, List.length_nil, List.length_set, List.length_replicate, List.length_take, List.length_drop] at *; omega) | (simp; done) | decide), (by first | rfl | assumption | omega | (simp only [List.length_append, List.length_cons, List.length_nil, List.length_set, List.length_replicate, List.length_take, List.length_drop]; omega) | (simp; done)), hp6, (by first | assumption | omega | (simp only [List.length_append, List.length_cons, List.length_nil, List.length_set, List.length_replicate, List.length_take, List.length_drop]; omega) | (simp only [fits] at *; omega) | (simp only [List.length_append, List.length_cons, List.length_nil, List.length_set, List.length_replicate, List.length_take, List.length_drop] at *; omega) | (simp; done) | decide), (fun h => hp8 (by first | exact h | (simp at h ⊢; omega)))⟩

theorem w_Put64_spec (v : Int) (hv0 : fits .u64 v) :
    CallsS Try.prog 29 [.int .u64 v] [] (fun r D => ∃ (A : Option Addr) (c : Nat) (zs : List Int), r = .slice A zs.length c ∧ D = [row 5 1 (.slice A zs.length c) zs.length (nums .u8 zs)] ∧ (zs = leB v 8) ∧ (zs.length = 8) ∧ (In .u8 zs) ∧ (zs.length ≤ c) ∧ (0 < zs.length → Option.isSome A = true)) := by
  refine CallsS.enter hU Try.f29 _ [.tmp 2] 5 Try.func29 rfl (by decide) rfl rfl (by kernel_rfl) fun w0 W => ?_
  have hvb := hv0; simp only [fits] at hvb
  refine RunC.seq ?_
  refine RunC.region ?_
  refine RunR.sil hU [] 1 1 [0, 2] [(0, .int .u64 v), (2, .slice none 0 0)] ((True) ∧ True) rfl (by kernel_rfl) ⟨trivial, trivial⟩ ?_
  refine RunR.done (by kernel_rfl) ?_
  refine kseq_n ?_
  refine RunC.seq ?_
  refine RunC.region ?_
  refine RunR.sil hU [] 1 1 [2, 3] [(2, .slice none 0 0), (3, .int .u64 v)] ((True) ∧ True) rfl (by kernel_rfl) ⟨trivial, trivial⟩ ?_
  refine RunR.step (dst := some 4) (op := .call { callee := .value (.func 60), args := #[.tmp 3, .const (.int .i64 8)], argTypes := #[31, 3] }) (by kernel_rfl) (Step.call 60 [.int .u64 v, .int .i64 8] (by kernel_rfl) (by kernel_rfl) [] [] [] (w_little_spec v 8 (by first | assumption | exact fits_wrap _ _ | exact fits_bits2 _ _ _ _ | (refine ⟨?_, ?_⟩ <;> omega)) (by first | assumption | omega | (simp only [List.length_append, List.length_cons, List.length_nil, List.length_set, List.length_replicate, List.length_take, List.length_drop]; omega) | (simp only [fits] at *; omega) | (simp only [List.length_append, List.length_cons, List.length_nil, List.length_set, List.length_replicate, List.length_take, List.length_drop] at *; omega) | (simp; done) | decide) (by first | assumption | omega | (simp only [List.length_append, List.length_cons, List.length_nil, List.length_set, List.length_replicate, List.length_take, List.length_drop]; omega) | (simp only [fits] at *; omega) | (simp only [List.length_append, List.length_cons, List.length_nil, List.length_set, List.length_replicate, List.length_take, List.length_drop] at *; omega) | (simp; done) | decide)) [] (by kernel_rfl) (Lend.nil _) ?_)
  rintro _ _ ⟨A1, c2, zs3, rfl, rfl, hp4, hp5, hp6, hp7, hp8⟩
  refine RunR.sil hU [] 1 3 [2] [(2, .slice A1 zs3.length c2)] ((True) ∧ True) rfl (by kernel_rfl) ⟨trivial, trivial⟩ ?_
  refine RunR.done (by kernel_rfl) ?_
  refine kseq_n ?_
  refine RunC.ret ?_
  refine kret_r [.slice A1 zs3.length c2] [0] [row 5 1 (.slice A1 zs3.length c2) zs3.length (nums .u8 zs3)] ⟨rfl, trivial⟩ (by kernel_rfl) rfl ⟨A1, c2, zs3, rfl, rfl, (by first | assumption | omega | (simp only [List.length_append, List.length_cons, List.length_nil, List.length_set, List.length_replicate, List.length_take, List.length_drop]; omega) | (simp only [fits] at *; omega) | (simp only [List.length_append, List.length_cons, List.length_nil, List.length_set, List.length_replicate, List.length_take, List.length_drop] at *; omega) | (simp; done) | decide), (by first | rfl | assumption | omega | (simp only [List.length_append, List.length_cons, List.length_nil, List.length_set, List.length_replicate, List.length_take, List.length_drop]; omega) | (simp; done)), hp6, (by first | assumption | omega | (simp only [List.length_append, List.length_cons, List.length_nil, List.length_set, List.length_replicate, List.length_take, List.length_drop]; omega) | (simp only [fits] at *; omega) | (simp only [List.length_append, List.length_cons, List.length_nil, List.length_set, List.length_replicate, List.length_take, List.length_drop] at *; omega) | (simp; done) | decide), (fun h => hp8 (by first | exact h | (simp at h ⊢; omega)))⟩

theorem w_Big32_spec (v : Int) (hv0 : fits .u32 v) :
    CallsS Try.prog 28 [.int .u32 v] [] (fun r D => ∃ (A : Option Addr) (c : Nat) (zs : List Int), r = .slice A zs.length c ∧ D = [row 5 1 (.slice A zs.length c) zs.length (nums .u8 zs)] ∧ (zs = (leB v 4).reverse) ∧ (zs.length = 4) ∧ (In .u8 zs) ∧ (zs.length ≤ c) ∧ (0 < zs.length → Option.isSome A = true)) := by
  refine CallsS.enter hU Try.f28 _ [.tmp 2] 6 Try.func28 rfl (by decide) rfl rfl (by kernel_rfl) fun w0 W => ?_
  have hvb := hv0; simp only [fits] at hvb
  refine RunC.seq ?_
  refine RunC.region ?_
  refine RunR.sil hU [] 1 1 [0, 2] [(0, .int .u32 v), (2, .slice none 0 0)] ((True) ∧ True) rfl (by kernel_rfl) ⟨trivial, trivial⟩ ?_
  refine RunR.done (by kernel_rfl) ?_
  refine kseq_n ?_
  refine RunC.seq ?_
  refine RunC.region ?_
  refine RunR.sil hU [1] 2 2 [2, 4] [(2, .slice none 0 0), (4, .int .u64 v)] ((True) ∧ (0 ≤ v ∧ v < 18446744073709551616) ∧ True) rfl (by kernel_rfl) ⟨trivial, (by omega), trivial⟩ ?_
  refine RunR.step (dst := some 5) (op := .call { callee := .value (.func 61), args := #[.tmp 4, .const (.int .i64 4)], argTypes := #[31, 3] }) (by kernel_rfl) (Step.call 61 [.int .u64 v, .int .i64 4] (by kernel_rfl) (by kernel_rfl) [] [] [] (w_big_spec v 4 (by first | assumption | exact fits_wrap _ _ | exact fits_bits2 _ _ _ _ | (refine ⟨?_, ?_⟩ <;> omega)) (by first | assumption | omega | (simp only [List.length_append, List.length_cons, List.length_nil, List.length_set, List.length_replicate, List.length_take, List.length_drop]; omega) | (simp only [fits] at *; omega) | (simp only [List.length_append, List.length_cons, List.length_nil, List.length_set, List.length_replicate, List.length_take, List.length_drop] at *; omega) | (simp; done) | decide) (by first | assumption | omega | (simp only [List.length_append, List.length_cons, List.length_nil, List.length_set, List.length_replicate, List.length_take, List.length_drop]; omega) | (simp only [fits] at *; omega) | (simp only [List.length_append, List.length_cons, List.length_nil, List.length_set, List.length_replicate, List.length_take, List.length_drop] at *; omega) | (simp; done) | decide)) [] (by kernel_rfl) (Lend.nil _) ?_)
  rintro _ _ ⟨A1, c2, zs3, rfl, rfl, hp4, hp5, hp6, hp7, hp8⟩
  refine RunR.sil hU [] 1 4 [2] [(2, .slice A1 zs3.length c2)] ((True) ∧ True) rfl (by kernel_rfl) ⟨trivial, trivial⟩ ?_
  refine RunR.done (by kernel_rfl) ?_
  refine kseq_n ?_
  refine RunC.ret ?_
  refine kret_r [.slice A1 zs3.length c2] [0] [row 5 1 (.slice A1 zs3.length c2) zs3.length (nums .u8 zs3)] ⟨rfl, trivial⟩ (by kernel_rfl) rfl ⟨A1, c2, zs3, rfl, rfl, (by first | assumption | omega | (simp only [List.length_append, List.length_cons, List.length_nil, List.length_set, List.length_replicate, List.length_take, List.length_drop]; omega) | (simp only [fits] at *; omega) | (simp only [List.length_append, List.length_cons, List.length_nil, List.length_set, List.length_replicate, List.length_take, List.length_drop] at *; omega) | (simp; done) | decide), (by first | rfl | assumption | omega | (simp only [List.length_append, List.length_cons, List.length_nil, List.length_set, List.length_replicate, List.length_take, List.length_drop]; omega) | (simp; done)), hp6, (by first | assumption | omega | (simp only [List.length_append, List.length_cons, List.length_nil, List.length_set, List.length_replicate, List.length_take, List.length_drop]; omega) | (simp only [fits] at *; omega) | (simp only [List.length_append, List.length_cons, List.length_nil, List.length_set, List.length_replicate, List.length_take, List.length_drop] at *; omega) | (simp; done) | decide), (fun h => hp8 (by first | exact h | (simp at h ⊢; omega)))⟩

theorem w_Big64_spec (v : Int) (hv0 : fits .u64 v) :
    CallsS Try.prog 30 [.int .u64 v] [] (fun r D => ∃ (A : Option Addr) (c : Nat) (zs : List Int), r = .slice A zs.length c ∧ D = [row 5 1 (.slice A zs.length c) zs.length (nums .u8 zs)] ∧ (zs = (leB v 8).reverse) ∧ (zs.length = 8) ∧ (In .u8 zs) ∧ (zs.length ≤ c) ∧ (0 < zs.length → Option.isSome A = true)) := by
  refine CallsS.enter hU Try.f30 _ [.tmp 2] 5 Try.func30 rfl (by decide) rfl rfl (by kernel_rfl) fun w0 W => ?_
  have hvb := hv0; simp only [fits] at hvb
  refine RunC.seq ?_
  refine RunC.region ?_
  refine RunR.sil hU [] 1 1 [0, 2] [(0, .int .u64 v), (2, .slice none 0 0)] ((True) ∧ True) rfl (by kernel_rfl) ⟨trivial, trivial⟩ ?_
  refine RunR.done (by kernel_rfl) ?_
  refine kseq_n ?_
  refine RunC.seq ?_
  refine RunC.region ?_
  refine RunR.sil hU [] 1 1 [2, 3] [(2, .slice none 0 0), (3, .int .u64 v)] ((True) ∧ True) rfl (by kernel_rfl) ⟨trivial, trivial⟩ ?_
  refine RunR.step (dst := some 4) (op := .call { callee := .value (.func 61), args := #[.tmp 3, .const (.int .i64 8)], argTypes := #[31, 3] }) (by kernel_rfl) (Step.call 61 [.int .u64 v, .int .i64 8] (by kernel_rfl) (by kernel_rfl) [] [] [] (w_big_spec v 8 (by first | assumption | exact fits_wrap _ _ | exact fits_bits2 _ _ _ _ | (refine ⟨?_, ?_⟩ <;> omega)) (by first | assumption | omega | (simp only [List.length_append, List.length_cons, List.length_nil, List.length_set, List.length_replicate, List.length_take, List.length_drop]; omega) | (simp only [fits] at *; omega) | (simp only [List.length_append, List.length_cons, List.length_nil, List.length_set, List.length_replicate, List.length_take, List.length_drop] at *; omega) | (simp; done) | decide) (by first | assumption | omega | (simp only [List.length_append, List.length_cons, List.length_nil, List.length_set, List.length_replicate, List.length_take, List.length_drop]; omega) | (simp only [fits] at *; omega) | (simp only [List.length_append, List.length_cons, List.length_nil, List.length_set, List.length_replicate, List.length_take, List.length_drop] at *; omega) | (simp; done) | decide)) [] (by kernel_rfl) (Lend.nil _) ?_)
  rintro _ _ ⟨A1, c2, zs3, rfl, rfl, hp4, hp5, hp6, hp7, hp8⟩
  refine RunR.sil hU [] 1 3 [2] [(2, .slice A1 zs3.length c2)] ((True) ∧ True) rfl (by kernel_rfl) ⟨trivial, trivial⟩ ?_
  refine RunR.done (by kernel_rfl) ?_
  refine kseq_n ?_
  refine RunC.ret ?_
  refine kret_r [.slice A1 zs3.length c2] [0] [row 5 1 (.slice A1 zs3.length c2) zs3.length (nums .u8 zs3)] ⟨rfl, trivial⟩ (by kernel_rfl) rfl ⟨A1, c2, zs3, rfl, rfl, (by first | assumption | omega | (simp only [List.length_append, List.length_cons, List.length_nil, List.length_set, List.length_replicate, List.length_take, List.length_drop]; omega) | (simp only [fits] at *; omega) | (simp only [List.length_append, List.length_cons, List.length_nil, List.length_set, List.length_replicate, List.length_take, List.length_drop] at *; omega) | (simp; done) | decide), (by first | rfl | assumption | omega | (simp only [List.length_append, List.length_cons, List.length_nil, List.length_set, List.length_replicate, List.length_take, List.length_drop]; omega) | (simp; done)), hp6, (by first | assumption | omega | (simp only [List.length_append, List.length_cons, List.length_nil, List.length_set, List.length_replicate, List.length_take, List.length_drop]; omega) | (simp only [fits] at *; omega) | (simp only [List.length_append, List.length_cons, List.length_nil, List.length_set, List.length_replicate, List.length_take, List.length_drop] at *; omega) | (simp; done) | decide), (fun h => hp8 (by first | exact h | (simp at h ⊢; omega)))⟩

theorem r_GetBig_spec (A : Option Addr) (c : Nat) (xs : List Int) (n : Int) (l_xs : Nat) (hx : In .u8 xs) (hn : xs.length ≤ 140737488351232) (h0 : 0 ≤ n) (h8 : n ≤ 8) (hl_xs : xs.length = l_xs) :
    CallsS Try.prog 23 [.slice A l_xs c, .int .i64 n] [vw A (nums .u8 xs)] (fun r D => r = .int .u64 (beN xs n.toNat) ∧ D = []) := by
  subst hl_xs
  refine CallsS.enter hU Try.f23 _ [.tmp 4] 26 Try.func23 rfl (by decide) rfl rfl (by kernel_rfl) fun w0 W => ?_
  refine RunC.know (p := 0 < xs.length → Option.isSome A = true) (fun w hs => vw_some hs 0 rfl (by simp [nums_length])) (fun hA1 => ?_)
  refine RunC.seq ?_
  refine RunC.region ?_
  refine RunR.sil hU [] 1 1 [0, 1, 4] [(0, .slice A xs.length c), (1, .int .i64 n), (4, .int .u64 0)] ((True) ∧ True) rfl (by kernel_rfl) ⟨trivial, trivial⟩ ?_
  refine RunR.done (by kernel_rfl) ?_
  refine kseq_n ?_
  refine RunC.seq ?_
  refine RunC.region ?_
  refine RunR.sil hU [] 1 1 [0, 1, 4, 5] [(0, .slice A xs.length c), (1, .int .i64 n), (4, .int .u64 0), (5, .int .u64 0)] ((True) ∧ True) rfl (by kernel_rfl) ⟨trivial, trivial⟩ ?_
  refine RunR.done (by kernel_rfl) ?_
  refine kseq_n ?_
  refine RunC.seq ?_
  refine RunC.seq ?_
  refine RunC.region ?_
  refine RunR.sil hU [] 1 1 [0, 1, 4, 5, 6] [(0, .slice A xs.length c), (1, .int .i64 n), (4, .int .u64 0), (5, .int .u64 0), (6, .int .i64 0)] ((True) ∧ True) rfl (by kernel_rfl) ⟨trivial, trivial⟩ ?_
  refine RunR.done (by kernel_rfl) ?_
  refine kseq_n ?_
  refine RunC.block ?_
  refine RunC.env [0, 1, 4, 5, 6] [(0, .slice A xs.length c), (1, .int .i64 n), (4, .int .u64 0), (5, .int .u64 0), (6, .int .i64 0)] (by kernel_rfl) ?_
  refine RunC.only [0] [vw A (nums .u8 xs)] (by kernel_rfl) ?_
  refine RunC.loop (σ := Nat) (fun n_ t_ D_ => ∃ (i : Int) (v : Int), (0 ≤ i) ∧ (i ≤ n) ∧ (v = beN xs i.toNat) ∧ n_ = ((n - i).toNat : Nat) ∧ t_ = [(0, .slice A xs.length c), (1, .int .i64 n), (4, .int .u64 0), (5, .int .u64 v), (6, .int .i64 i)] ∧ D_ = [vw A (nums .u8 xs)]) id _ ⟨0, 0, (by first | assumption | omega | (simp only [List.length_append, List.length_cons, List.length_nil, List.length_set, List.length_replicate, List.length_take, List.length_drop]; omega) | (simp only [fits] at *; omega) | (simp only [List.length_append, List.length_cons, List.length_nil, List.length_set, List.length_replicate, List.length_take, List.length_drop] at *; omega) | (simp; done) | decide), (by first | assumption | omega | (simp only [List.length_append, List.length_cons, List.length_nil, List.length_set, List.length_replicate, List.length_take, List.length_drop]; omega) | (simp only [fits] at *; omega) | (simp only [List.length_append, List.length_cons, List.length_nil, List.length_set, List.length_replicate, List.length_take, List.length_drop] at *; omega) | (simp; done) | decide), (by rfl), rfl, rfl, rfl⟩ ?_
  rintro n_ _ _ ⟨i, v, hi, hin, hv, rfl, rfl, rfl⟩
  refine RunC.seq ?_
  refine RunC.seq ?_
  refine RunC.region ?_
  refine RunR.sil hU [] 3 3 [0, 1, 4, 5, 6, 9] [(0, .slice A xs.length c), (1, .int .i64 n), (4, .int .u64 0), (5, .int .u64 v), (6, .int .i64 i), (9, .bool (decide (i < n)))] ((True) ∧ (True) ∧ (True) ∧ True) rfl (by kernel_rfl) ⟨trivial, trivial, trivial, trivial⟩ ?_
  refine RunR.done (by kernel_rfl) ?_
  refine kseq_n ?_
  refine RunC.condp (i < n) (by kernel_rfl) (fun h2 => ?_) (fun h2 => ?_)
  · skip
    refine RunC.skip ?_
    refine kseq_n ?_
    refine RunC.seq ?_
    refine RunC.block ?_
    refine RunC.seq ?_
    refine RunC.region ?_
    refine RunR.sil hU [] 3 3 [0, 1, 4, 5, 6] [(0, .slice A xs.length c), (1, .int .i64 n), (4, .int .u64 0), (5, .int .u64 (IntKind.wrap .u64 (v * 256))), (6, .int .i64 i)] ((True) ∧ (True) ∧ (True) ∧ True) rfl (by kernel_rfl) ⟨trivial, trivial, trivial, trivial⟩ ?_
    refine RunR.done (by kernel_rfl) ?_
    refine kseq_n ?_
    refine RunC.seq ?_
    refine RunC.region ?_
    refine RunR.sil hU [] 4 4 [0, 1, 4, 5, 6, 17] [(0, .slice A xs.length c), (1, .int .i64 n), (4, .int .u64 0), (5, .int .u64 (IntKind.wrap .u64 (v * 256))), (6, .int .i64 i), (17, .bool (decide (i < ((xs.length : Nat) : Int))))] ((True) ∧ (True) ∧ (True) ∧ (True) ∧ True) rfl (by kernel_rfl) ⟨trivial, trivial, trivial, trivial, trivial⟩ ?_
    refine RunR.done (by kernel_rfl) ?_
    refine kseq_n ?_
    refine RunC.condp (i < ((xs.length : Nat) : Int)) (by kernel_rfl) (fun h3 => ?_) (fun h3 => ?_)
    · skip
      refine RunC.region ?_
      refine RunR.sil hU [] 4 4 [0, 1, 4, 5, 6, 18, 21] [(0, .slice A xs.length c), (1, .int .i64 n), (4, .int .u64 0), (5, .int .u64 (IntKind.wrap .u64 (v * 256))), (6, .int .i64 i), (18, .int .u64 (IntKind.wrap .u64 (v * 256))), (21, .pointer (elemAt A i 1))] ((True) ∧ (True) ∧ (True) ∧ ((0 ≤ i ∧ i < ((xs.length : Nat) : Int)) ∧ Option.isSome A = true) ∧ True) rfl (by kernel_rfl) ⟨trivial, trivial, trivial, ⟨by omega, hA1 (by omega)⟩, trivial⟩ ?_
      refine RunR.step (dst := some 22) (op := .load 5 (.tmp 21)) (by kernel_rfl) (Step.load_num hU 0 (vw A (nums .u8 xs)) A i .u8 xs rfl (by kernel_rfl) (by kernel_rfl) (tells_vw _ _) (by kernel_rfl) (by omega) ?_)
      have hb4 : 0 ≤ xs.getD ((i).toNat) 0 ∧ xs.getD ((i).toNat) 0 < 256 := hx.at_ _
      refine RunR.sil hU [5] 3 8 [0, 1, 4, 5, 6] [(0, .slice A xs.length c), (1, .int .i64 n), (4, .int .u64 0), (5, .int .u64 (IntKind.wrap .u64 ((IntKind.wrap .u64 (v * 256)) + (xs.getD (i).toNat 0)))), (6, .int .i64 i)] ((0 ≤ (xs.getD (i).toNat 0) ∧ (xs.getD (i).toNat 0) < 18446744073709551616) ∧ (True) ∧ (True) ∧ True) rfl (by kernel_rfl) ⟨(by omega), trivial, trivial, trivial⟩ ?_
      refine RunR.done (by kernel_rfl) ?_
      refine kblock_n ?_
      refine kseq_n ?_
      refine RunC.region ?_
      refine RunR.sil hU [1] 3 3 [0, 1, 4, 5, 6] [(0, .slice A xs.length c), (1, .int .i64 n), (4, .int .u64 0), (5, .int .u64 (IntKind.wrap .u64 ((IntKind.wrap .u64 (v * 256)) + (xs.getD (i).toNat 0)))), (6, .int .i64 (i + 1))] ((True) ∧ (-9223372036854775808 ≤ (i + 1) ∧ (i + 1) < 9223372036854775808) ∧ (True) ∧ True) rfl (by kernel_rfl) ⟨trivial, (by omega), trivial, trivial⟩ ?_
      refine RunR.done (by kernel_rfl) ?_
      refine kloop_n _ [0, 1, 4, 5, 6] [0] [(0, .slice A xs.length c), (1, .int .i64 n), (4, .int .u64 0), (5, .int .u64 (IntKind.wrap .u64 ((IntKind.wrap .u64 (v * 256)) + (xs.getD (i).toNat 0)))), (6, .int .i64 (i + 1))] [vw A (nums .u8 xs)] (by kernel_rfl) (by kernel_rfl) ?_ ⟨(i + 1), (IntKind.wrap .u64 ((IntKind.wrap .u64 (v * 256)) + (xs.getD (i).toNat 0))), (by first | assumption | omega | (simp only [List.length_append, List.length_cons, List.length_nil, List.length_set, List.length_replicate, List.length_take, List.length_drop]; omega) | (simp only [fits] at *; omega) | (simp only [List.length_append, List.length_cons, List.length_nil, List.length_set, List.length_replicate, List.length_take, List.length_drop] at *; omega) | (simp; done) | decide), (by first | assumption | omega | (simp only [List.length_append, List.length_cons, List.length_nil, List.length_set, List.length_replicate, List.length_take, List.length_drop]; omega) | (simp only [fits] at *; omega) | (simp only [List.length_append, List.length_cons, List.length_nil, List.length_set, List.length_replicate, List.length_take, List.length_drop] at *; omega) | (simp; done) | decide), (by rw [hv]; first | exact refGetBig_step hx i hi (by omega) | exact refGetBig_step0 hx i hi (by omega) (by omega)), rfl, (by rfl), (by rfl)⟩
      show ((n - (i + 1)).toNat : Nat) < ((n - i).toNat : Nat)
      omega
    · skip
      refine RunC.skip ?_
      refine kblock_n ?_
      refine kseq_n ?_
      refine RunC.region ?_
      refine RunR.sil hU [1] 3 3 [0, 1, 4, 5, 6] [(0, .slice A xs.length c), (1, .int .i64 n), (4, .int .u64 0), (5, .int .u64 (IntKind.wrap .u64 (v * 256))), (6, .int .i64 (i + 1))] ((True) ∧ (-9223372036854775808 ≤ (i + 1) ∧ (i + 1) < 9223372036854775808) ∧ (True) ∧ True) rfl (by kernel_rfl) ⟨trivial, (by omega), trivial, trivial⟩ ?_
      refine RunR.done (by kernel_rfl) ?_
      refine kloop_n _ [0, 1, 4, 5, 6] [0] [(0, .slice A xs.length c), (1, .int .i64 n), (4, .int .u64 0), (5, .int .u64 (IntKind.wrap .u64 (v * 256))), (6, .int .i64 (i + 1))] [vw A (nums .u8 xs)] (by kernel_rfl) (by kernel_rfl) ?_ ⟨(i + 1), (IntKind.wrap .u64 (v * 256)), (by first | assumption | omega | (simp only [List.length_append, List.length_cons, List.length_nil, List.length_set, List.length_replicate, List.length_take, List.length_drop]; omega) | (simp only [fits] at *; omega) | (simp only [List.length_append, List.length_cons, List.length_nil, List.length_set, List.length_replicate, List.length_take, List.length_drop] at *; omega) | (simp; done) | decide), (by first | assumption | omega | (simp only [List.length_append, List.length_cons, List.length_nil, List.length_set, List.length_replicate, List.length_take, List.length_drop]; omega) | (simp only [fits] at *; omega) | (simp only [List.length_append, List.length_cons, List.length_nil, List.length_set, List.length_replicate, List.length_take, List.length_drop] at *; omega) | (simp; done) | decide), (by rw [hv]; first | exact refGetBig_step hx i hi (by omega) | exact refGetBig_step0 hx i hi (by omega) (by omega)), rfl, (by rfl), (by rfl)⟩
      show ((n - (i + 1)).toNat : Nat) < ((n - i).toNat : Nat)
      omega
  · skip
    refine RunC.exit ?_
    refine kseq_e ?_
    refine kloop_e ?_
    refine kblock_e ?_
    refine kseq_n ?_
    refine RunC.seq ?_
    refine RunC.region ?_
    refine RunR.sil hU [] 2 2 [4] [(4, .int .u64 v)] ((True) ∧ (True) ∧ True) rfl (by kernel_rfl) ⟨trivial, trivial, trivial⟩ ?_
    refine RunR.done (by kernel_rfl) ?_
    refine kseq_n ?_
    refine RunC.ret ?_
    refine kret_r [.int .u64 v] [] [] ⟨rfl, trivial⟩ (by kernel_rfl) rfl ⟨(by first | rfl | (rw [show n = i by omega, hv]; rfl)), (by first | rfl | (rw [show n = i by omega, hv]; rfl))⟩

theorem r_Get_spec (A : Option Addr) (c : Nat) (xs : List Int) (n : Int) (l_xs : Nat) (hx : In .u8 xs) (hn : xs.length ≤ 140737488351232) (h0 : 0 ≤ n) (h8 : n ≤ 8) (hl_xs : xs.length = l_xs) :
    CallsS Try.prog 20 [.slice A l_xs c, .int .i64 n] [vw A (nums .u8 xs)] (fun r D => r = .int .u64 (leN xs n.toNat) ∧ D = []) := by
  subst hl_xs
  refine CallsS.enter hU Try.f20 _ [.tmp 4] 27 Try.func20 rfl (by decide) rfl rfl (by kernel_rfl) fun w0 W => ?_
  refine RunC.know (p := 0 < xs.length → Option.isSome A = true) (fun w hs => vw_some hs 0 rfl (by simp [nums_length])) (fun hA1 => ?_)
  refine RunC.seq ?_
  refine RunC.region ?_
  refine RunR.sil hU [] 1 1 [0, 1, 4] [(0, .slice A xs.length c), (1, .int .i64 n), (4, .int .u64 0)] ((True) ∧ True) rfl (by kernel_rfl) ⟨trivial, trivial⟩ ?_
  refine RunR.done (by kernel_rfl) ?_
  refine kseq_n ?_
  refine RunC.seq ?_
  refine RunC.region ?_
  refine RunR.sil hU [] 1 1 [0, 1, 4, 5] [(0, .slice A xs.length c), (1, .int .i64 n), (4, .int .u64 0), (5, .int .u64 0)] ((True) ∧ True) rfl (by kernel_rfl) ⟨trivial, trivial⟩ ?_
  refine RunR.done (by kernel_rfl) ?_
  refine kseq_n ?_
  refine RunC.seq ?_
  refine RunC.seq ?_
  refine RunC.region ?_
  refine RunR.sil hU [1] 3 3 [0, 4, 5, 6] [(0, .slice A xs.length c), (4, .int .u64 0), (5, .int .u64 0), (6, .int .i64 (n - 1))] ((True) ∧ (-9223372036854775808 ≤ (n - 1) ∧ (n - 1) < 9223372036854775808) ∧ (True) ∧ True) rfl (by kernel_rfl) ⟨trivial, (by omega), trivial, trivial⟩ ?_
  refine RunR.done (by kernel_rfl) ?_
  refine kseq_n ?_
  refine RunC.block ?_
  refine RunC.env [0, 4, 5, 6] [(0, .slice A xs.length c), (4, .int .u64 0), (5, .int .u64 0), (6, .int .i64 (n - 1))] (by kernel_rfl) ?_
  refine RunC.only [0] [vw A (nums .u8 xs)] (by kernel_rfl) ?_
  refine RunC.loop (σ := Nat) (fun n_ t_ D_ => ∃ (i : Int) (v : Int), (-1 ≤ i) ∧ (i < n) ∧ (v = leN (xs.drop (i + 1).toNat) (n - 1 - i).toNat) ∧ n_ = ((i + 1).toNat : Nat) ∧ t_ = [(0, .slice A xs.length c), (4, .int .u64 0), (5, .int .u64 v), (6, .int .i64 i)] ∧ D_ = [vw A (nums .u8 xs)]) id _ ⟨(n - 1), 0, (by first | assumption | omega | (simp only [List.length_append, List.length_cons, List.length_nil, List.length_set, List.length_replicate, List.length_take, List.length_drop]; omega) | (simp only [fits] at *; omega) | (simp only [List.length_append, List.length_cons, List.length_nil, List.length_set, List.length_replicate, List.length_take, List.length_drop] at *; omega) | (simp; done) | decide), (by first | assumption | omega | (simp only [List.length_append, List.length_cons, List.length_nil, List.length_set, List.length_replicate, List.length_take, List.length_drop]; omega) | (simp only [fits] at *; omega) | (simp only [List.length_append, List.length_cons, List.length_nil, List.length_set, List.length_replicate, List.length_take, List.length_drop] at *; omega) | (simp; done) | decide), (by rw [show (n - 1 - (n - 1)).toNat = 0 by omega]; rfl), rfl, rfl, rfl⟩ ?_
  rintro n_ _ _ ⟨i, v, hi, hin, hv, rfl, rfl, rfl⟩
  refine RunC.seq ?_
  refine RunC.seq ?_
  refine RunC.region ?_
  refine RunR.sil hU [] 2 2 [0, 4, 5, 6, 10] [(0, .slice A xs.length c), (4, .int .u64 0), (5, .int .u64 v), (6, .int .i64 i), (10, .bool (decide (i ≥ 0)))] ((True) ∧ (True) ∧ True) rfl (by kernel_rfl) ⟨trivial, trivial, trivial⟩ ?_
  refine RunR.done (by kernel_rfl) ?_
  refine kseq_n ?_
  refine RunC.condp (i ≥ 0) (by kernel_rfl) (fun h2 => ?_) (fun h2 => ?_)
  · skip
    refine RunC.skip ?_
    refine kseq_n ?_
    refine RunC.seq ?_
    refine RunC.block ?_
    refine RunC.seq ?_
    refine RunC.region ?_
    refine RunR.sil hU [] 3 3 [0, 4, 5, 6] [(0, .slice A xs.length c), (4, .int .u64 0), (5, .int .u64 (IntKind.wrap .u64 (v * 256))), (6, .int .i64 i)] ((True) ∧ (True) ∧ (True) ∧ True) rfl (by kernel_rfl) ⟨trivial, trivial, trivial, trivial⟩ ?_
    refine RunR.done (by kernel_rfl) ?_
    refine kseq_n ?_
    refine RunC.seq ?_
    refine RunC.region ?_
    refine RunR.sil hU [] 4 4 [0, 4, 5, 6, 18] [(0, .slice A xs.length c), (4, .int .u64 0), (5, .int .u64 (IntKind.wrap .u64 (v * 256))), (6, .int .i64 i), (18, .bool (decide (i < ((xs.length : Nat) : Int))))] ((True) ∧ (True) ∧ (True) ∧ (True) ∧ True) rfl (by kernel_rfl) ⟨trivial, trivial, trivial, trivial, trivial⟩ ?_
    refine RunR.done (by kernel_rfl) ?_
    refine kseq_n ?_
    refine RunC.condp (i < ((xs.length : Nat) : Int)) (by kernel_rfl) (fun h3 => ?_) (fun h3 => ?_)
    · skip
      refine RunC.region ?_
      refine RunR.sil hU [] 4 4 [0, 4, 5, 6, 19, 22] [(0, .slice A xs.length c), (4, .int .u64 0), (5, .int .u64 (IntKind.wrap .u64 (v * 256))), (6, .int .i64 i), (19, .int .u64 (IntKind.wrap .u64 (v * 256))), (22, .pointer (elemAt A i 1))] ((True) ∧ (True) ∧ (True) ∧ ((0 ≤ i ∧ i < ((xs.length : Nat) : Int)) ∧ Option.isSome A = true) ∧ True) rfl (by kernel_rfl) ⟨trivial, trivial, trivial, ⟨by omega, hA1 (by omega)⟩, trivial⟩ ?_
      refine RunR.step (dst := some 23) (op := .load 5 (.tmp 22)) (by kernel_rfl) (Step.load_num hU 0 (vw A (nums .u8 xs)) A i .u8 xs rfl (by kernel_rfl) (by kernel_rfl) (tells_vw _ _) (by kernel_rfl) (by omega) ?_)
      have hb4 : 0 ≤ xs.getD ((i).toNat) 0 ∧ xs.getD ((i).toNat) 0 < 256 := hx.at_ _
      refine RunR.sil hU [5] 3 8 [0, 4, 5, 6] [(0, .slice A xs.length c), (4, .int .u64 0), (5, .int .u64 (IntKind.wrap .u64 ((IntKind.wrap .u64 (v * 256)) + (xs.getD (i).toNat 0)))), (6, .int .i64 i)] ((0 ≤ (xs.getD (i).toNat 0) ∧ (xs.getD (i).toNat 0) < 18446744073709551616) ∧ (True) ∧ (True) ∧ True) rfl (by kernel_rfl) ⟨(by omega), trivial, trivial, trivial⟩ ?_
      refine RunR.done (by kernel_rfl) ?_
      refine kblock_n ?_
      refine kseq_n ?_
      refine RunC.region ?_
      refine RunR.sil hU [1] 3 3 [0, 4, 5, 6] [(0, .slice A xs.length c), (4, .int .u64 0), (5, .int .u64 (IntKind.wrap .u64 ((IntKind.wrap .u64 (v * 256)) + (xs.getD (i).toNat 0)))), (6, .int .i64 (i - 1))] ((True) ∧ (-9223372036854775808 ≤ (i - 1) ∧ (i - 1) < 9223372036854775808) ∧ (True) ∧ True) rfl (by kernel_rfl) ⟨trivial, (by omega), trivial, trivial⟩ ?_
      refine RunR.done (by kernel_rfl) ?_
      refine kloop_n _ [0, 4, 5, 6] [0] [(0, .slice A xs.length c), (4, .int .u64 0), (5, .int .u64 (IntKind.wrap .u64 ((IntKind.wrap .u64 (v * 256)) + (xs.getD (i).toNat 0)))), (6, .int .i64 (i - 1))] [vw A (nums .u8 xs)] (by kernel_rfl) (by kernel_rfl) ?_ ⟨(i - 1), (IntKind.wrap .u64 ((IntKind.wrap .u64 (v * 256)) + (xs.getD (i).toNat 0))), (by first | assumption | omega | (simp only [List.length_append, List.length_cons, List.length_nil, List.length_set, List.length_replicate, List.length_take, List.length_drop]; omega) | (simp only [fits] at *; omega) | (simp only [List.length_append, List.length_cons, List.length_nil, List.length_set, List.length_replicate, List.length_take, List.length_drop] at *; omega) | (simp; done) | decide), (by first | assumption | omega | (simp only [List.length_append, List.length_cons, List.length_nil, List.length_set, List.length_replicate, List.length_take, List.length_drop]; omega) | (simp only [fits] at *; omega) | (simp only [List.length_append, List.length_cons, List.length_nil, List.length_set, List.length_replicate, List.length_take, List.length_drop] at *; omega) | (simp; done) | decide), (by rw [hv, show (i + 1).toNat = i.toNat + 1 by omega, show (i - 1 + 1).toNat = i.toNat by omega, show (n - 1 - (i - 1)).toNat = (n - i).toNat by omega]; first | exact refGet_step hx n i h8 (by omega) (by omega) | exact refGet_step0 hx n i h8 (by omega) (by omega) (by omega)), rfl, (by rfl), (by rfl)⟩
      show (((i - 1) + 1).toNat : Nat) < ((i + 1).toNat : Nat)
      omega
    · skip
      refine RunC.skip ?_
      refine kblock_n ?_
      refine kseq_n ?_
      refine RunC.region ?_
      refine RunR.sil hU [1] 3 3 [0, 4, 5, 6] [(0, .slice A xs.length c), (4, .int .u64 0), (5, .int .u64 (IntKind.wrap .u64 (v * 256))), (6, .int .i64 (i - 1))] ((True) ∧ (-9223372036854775808 ≤ (i - 1) ∧ (i - 1) < 9223372036854775808) ∧ (True) ∧ True) rfl (by kernel_rfl) ⟨trivial, (by omega), trivial, trivial⟩ ?_
      refine RunR.done (by kernel_rfl) ?_
      refine kloop_n _ [0, 4, 5, 6] [0] [(0, .slice A xs.length c), (4, .int .u64 0), (5, .int .u64 (IntKind.wrap .u64 (v * 256))), (6, .int .i64 (i - 1))] [vw A (nums .u8 xs)] (by kernel_rfl) (by kernel_rfl) ?_ ⟨(i - 1), (IntKind.wrap .u64 (v * 256)), (by first | assumption | omega | (simp only [List.length_append, List.length_cons, List.length_nil, List.length_set, List.length_replicate, List.length_take, List.length_drop]; omega) | (simp only [fits] at *; omega) | (simp only [List.length_append, List.length_cons, List.length_nil, List.length_set, List.length_replicate, List.length_take, List.length_drop] at *; omega) | (simp; done) | decide), (by first | assumption | omega | (simp only [List.length_append, List.length_cons, List.length_nil, List.length_set, List.length_replicate, List.length_take, List.length_drop]; omega) | (simp only [fits] at *; omega) | (simp only [List.length_append, List.length_cons, List.length_nil, List.length_set, List.length_replicate, List.length_take, List.length_drop] at *; omega) | (simp; done) | decide), (by rw [hv, show (i + 1).toNat = i.toNat + 1 by omega, show (i - 1 + 1).toNat = i.toNat by omega, show (n - 1 - (i - 1)).toNat = (n - i).toNat by omega]; first | exact refGet_step hx n i h8 (by omega) (by omega) | exact refGet_step0 hx n i h8 (by omega) (by omega) (by omega)), rfl, (by rfl), (by rfl)⟩
      show (((i - 1) + 1).toNat : Nat) < ((i + 1).toNat : Nat)
      omega
  · skip
    refine RunC.exit ?_
    refine kseq_e ?_
    refine kloop_e ?_
    refine kblock_e ?_
    refine kseq_n ?_
    refine RunC.seq ?_
    refine RunC.region ?_
    refine RunR.sil hU [] 2 2 [4] [(4, .int .u64 v)] ((True) ∧ (True) ∧ True) rfl (by kernel_rfl) ⟨trivial, trivial, trivial⟩ ?_
    refine RunR.done (by kernel_rfl) ?_
    refine kseq_n ?_
    refine RunC.ret ?_
    refine kret_r [.int .u64 v] [] [] ⟨rfl, trivial⟩ (by kernel_rfl) rfl ⟨(by first | rfl | (rw [hv, show i = -1 by omega]; simp [retv])), (by first | rfl | (rw [hv, show i = -1 by omega]; simp [retv]))⟩

theorem r_Little_spec (v : Int) (n : Int) (hv0 : fits .u64 v) (h0 : 0 ≤ n) (h8 : n ≤ 8) :
    CallsS Try.prog 39 [.int .u64 v, .int .i64 n] [] (fun r D => ∃ (A : Option Addr) (c : Nat) (zs : List Int), r = .slice A zs.length c ∧ D = [row 5 1 (.slice A zs.length c) zs.length (nums .u8 zs)] ∧ (zs = leB v n.toNat) ∧ (zs.length = n.toNat) ∧ (In .u8 zs) ∧ (zs.length ≤ c) ∧ (0 < zs.length → Option.isSome A = true)) := by
  refine CallsS.enter hU Try.f39 _ [.tmp 4] 21 Try.func39 rfl (by decide) rfl rfl (by kernel_rfl) fun w0 W => ?_
  refine RunC.seq ?_
  refine RunC.region ?_
  refine RunR.sil hU [] 1 1 [0, 1, 4] [(0, .int .u64 v), (1, .int .i64 n), (4, .slice none 0 0)] ((True) ∧ True) rfl (by kernel_rfl) ⟨trivial, trivial⟩ ?_
  refine RunR.done (by kernel_rfl) ?_
  refine kseq_n ?_
  refine RunC.seq ?_
  refine RunC.region ?_
  refine RunR.sil hU [] 1 1 [0, 1, 4, 5] [(0, .int .u64 v), (1, .int .i64 n), (4, .slice none 0 0), (5, .slice none 0 0)] ((True) ∧ True) rfl (by kernel_rfl) ⟨trivial, trivial⟩ ?_
  refine RunR.done (by kernel_rfl) ?_
  refine kseq_n ?_
  refine RunC.seq ?_
  refine RunC.seq ?_
  refine RunC.region ?_
  refine RunR.sil hU [] 1 1 [0, 1, 4, 5, 6] [(0, .int .u64 v), (1, .int .i64 n), (4, .slice none 0 0), (5, .slice none 0 0), (6, .int .i64 0)] ((True) ∧ True) rfl (by kernel_rfl) ⟨trivial, trivial⟩ ?_
  refine RunR.done (by kernel_rfl) ?_
  refine kseq_n ?_
  refine RunC.block ?_
  refine RunC.turn ([row 5 1 (.slice none 0 0) 0 (nums .u8 ([] : List Int))]) (fun w hs => hs.nil_row 5 1) ?_
  refine RunC.env [0, 1, 4, 5, 6] [(0, .int .u64 v), (1, .int .i64 n), (4, .slice none 0 0), (5, .slice none 0 0), (6, .int .i64 0)] (by kernel_rfl) ?_
  refine RunC.only [0] [row 5 1 (.slice none 0 0) 0 (nums .u8 ([] : List Int))] (by kernel_rfl) ?_
  refine RunC.loop (σ := Nat) (fun n_ t_ D_ => ∃ (i : Int) (u : Int) (zs : List Int) (A : Option Addr) (c : Nat), (0 ≤ i) ∧ (i ≤ n) ∧ (zs = leB v i.toNat) ∧ (zs.length = i.toNat) ∧ (u = v / 256 ^ i.toNat) ∧ (0 ≤ u ∧ u < 18446744073709551616) ∧ (zs.length ≤ c) ∧ (0 < zs.length → Option.isSome A = true) ∧ n_ = ((n - i).toNat : Nat) ∧ t_ = [(0, .int .u64 u), (1, .int .i64 n), (4, .slice none 0 0), (5, .slice A zs.length c), (6, .int .i64 i)] ∧ D_ = [row 5 1 (.slice A zs.length c) zs.length (nums .u8 zs)]) id _ ⟨0, v, ([] : List Int), none, 0, (by first | assumption | omega | (simp only [List.length_append, List.length_cons, List.length_nil, List.length_set, List.length_replicate, List.length_take, List.length_drop]; omega) | (simp only [fits] at *; omega) | (simp only [List.length_append, List.length_cons, List.length_nil, List.length_set, List.length_replicate, List.length_take, List.length_drop] at *; omega) | (simp; done) | decide), (by first | assumption | omega | (simp only [List.length_append, List.length_cons, List.length_nil, List.length_set, List.length_replicate, List.length_take, List.length_drop]; omega) | (simp only [fits] at *; omega) | (simp only [List.length_append, List.length_cons, List.length_nil, List.length_set, List.length_replicate, List.length_take, List.length_drop] at *; omega) | (simp; done) | decide), (by rfl), (by rfl), (by simp), (by simp only [fits] at hv0; exact hv0), (by exact Nat.le_refl _), (by intro h; simp at h), rfl, rfl, rfl⟩ ?_
  rintro n_ _ _ ⟨i, u, zs, A, c, hi, hin, hz, hzl, hu, hub, hc, hA, rfl, rfl, rfl⟩
  refine RunC.seq ?_
  refine RunC.seq ?_
  refine RunC.region ?_
  refine RunR.sil hU [] 3 3 [0, 1, 4, 5, 6, 9] [(0, .int .u64 u), (1, .int .i64 n), (4, .slice none 0 0), (5, .slice A zs.length c), (6, .int .i64 i), (9, .bool (decide (i < n)))] ((True) ∧ (True) ∧ (True) ∧ True) rfl (by kernel_rfl) ⟨trivial, trivial, trivial, trivial⟩ ?_
  refine RunR.done (by kernel_rfl) ?_
  refine kseq_n ?_
  refine RunC.condp (i < n) (by kernel_rfl) (fun h1 => ?_) (fun h1 => ?_)
  · skip
    refine RunC.skip ?_
    refine kseq_n ?_
    refine RunC.seq ?_
    refine RunC.block ?_
    refine RunC.seq ?_
    refine RunC.region ?_
    refine RunR.sil hU [2, 3] 4 4 [0, 1, 4, 5, 6, 12, 15] [(0, .int .u64 u), (1, .int .i64 n), (4, .slice none 0 0), (5, .slice A zs.length c), (6, .int .i64 i), (12, .slice A zs.length c), (15, .int .u8 (u % (256 : Int)))] ((True) ∧ (True) ∧ (0 ≤ u ∧ 0 < (256 : Int)) ∧ (0 ≤ (u % (256 : Int)) ∧ (u % (256 : Int)) < 256) ∧ True) rfl (by kernel_rfl) ⟨trivial, trivial, (by omega), (by omega), trivial⟩ ?_
    refine RunR.step (dst := some 16) (op := .buildSlice 22 1 #[(0, .tmp 15)]) (by kernel_rfl) (Step.lit_nums hU 5 1 .u8 (.int .u8 0) ([u % (256 : Int)] : List Int) rfl rfl (by kernel_rfl) rfl rfl (by kernel_rfl) (fun b2 => ?_))
    have hl7 : (([u % (256 : Int)] : List Int)).length = 1 := rfl
    refine RunR.step (dst := some 17) (op := .call { callee := .builtin .append, args := #[.tmp 12, .tmp 16], argTypes := #[22, 22] }) (by kernel_rfl) (Step.append_nums hU 5 1 (.int .u8 0) .u8 1 0 A zs.length c zs (some ⟨b2, 0, none⟩) 1 1 (row 5 1 (.slice (some ⟨b2, 0, none⟩) 1 1) 1 (nums .u8 ([u % (256 : Int)] : List Int))) ([u % (256 : Int)] : List Int) rfl rfl rfl (by kernel_rfl) (by kernel_rfl) (by kernel_rfl) (by kernel_rfl) (tells_row _ _ _ _ _ _) (by first | rfl | omega | (simp; omega)) (by first | rfl | omega | (simp; omega)) (by omega) (by omega) (by kernel_rfl) (fun A3 c4 hc5 hA6 => ?_))
    have hl8 : (zs ++ ([u % (256 : Int)] : List Int)).length = zs.length + ([u % (256 : Int)] : List Int).length := List.length_append
    simp only [List.length_cons, List.length_nil] at hl8
    refine RunR.sil hU [] 1 7 [0, 1, 4, 5, 6] [(0, .int .u64 u), (1, .int .i64 n), (4, .slice none 0 0), (5, .slice A3 ((zs ++ ([u % (256 : Int)] : List Int)).length) c4), (6, .int .i64 i)] ((True) ∧ True) rfl (by kernel_rfl) ⟨trivial, trivial⟩ ?_
    refine RunR.done (by kernel_rfl) ?_
    refine kseq_n ?_
    refine RunC.region ?_
    refine RunR.sil hU [1] 3 3 [0, 1, 4, 5, 6] [(0, .int .u64 (u / (256 : Int))), (1, .int .i64 n), (4, .slice none 0 0), (5, .slice A3 ((zs ++ ([u % (256 : Int)] : List Int)).length) c4), (6, .int .i64 i)] ((True) ∧ (0 ≤ u ∧ 0 < (256 : Int) ∧ 0 ≤ (u / (256 : Int)) ∧ (u / (256 : Int)) < 18446744073709551616) ∧ (True) ∧ True) rfl (by kernel_rfl) ⟨trivial, (by omega), trivial, trivial⟩ ?_
    refine RunR.done (by kernel_rfl) ?_
    refine kblock_n ?_
    refine kseq_n ?_
    refine RunC.region ?_
    refine RunR.sil hU [1] 3 3 [0, 1, 4, 5, 6] [(0, .int .u64 (u / (256 : Int))), (1, .int .i64 n), (4, .slice none 0 0), (5, .slice A3 ((zs ++ ([u % (256 : Int)] : List Int)).length) c4), (6, .int .i64 (i + 1))] ((True) ∧ (-9223372036854775808 ≤ (i + 1) ∧ (i + 1) < 9223372036854775808) ∧ (True) ∧ True) rfl (by kernel_rfl) ⟨trivial, (by omega), trivial, trivial⟩ ?_
    refine RunR.done (by kernel_rfl) ?_
    refine kloop_n _ [0, 1, 4, 5, 6] [0] [(0, .int .u64 (u / (256 : Int))), (1, .int .i64 n), (4, .slice none 0 0), (5, .slice A3 ((zs ++ ([u % (256 : Int)] : List Int)).length) c4), (6, .int .i64 (i + 1))] [row 5 1 (.slice A3 ((zs ++ ([u % (256 : Int)] : List Int)).length) c4) ((zs ++ ([u % (256 : Int)] : List Int)).length) (nums .u8 (zs ++ ([u % (256 : Int)] : List Int)))] (by kernel_rfl) (by kernel_rfl) ?_ ⟨(i + 1), (u / (256 : Int)), (zs ++ ([u % (256 : Int)] : List Int)), A3, c4, (by first | assumption | omega | (simp only [List.length_append, List.length_cons, List.length_nil, List.length_set, List.length_replicate, List.length_take, List.length_drop]; omega) | (simp only [fits] at *; omega) | (simp only [List.length_append, List.length_cons, List.length_nil, List.length_set, List.length_replicate, List.length_take, List.length_drop] at *; omega) | (simp; done) | decide), (by first | assumption | omega | (simp only [List.length_append, List.length_cons, List.length_nil, List.length_set, List.length_replicate, List.length_take, List.length_drop]; omega) | (simp only [fits] at *; omega) | (simp only [List.length_append, List.length_cons, List.length_nil, List.length_set, List.length_replicate, List.length_take, List.length_drop] at *; omega) | (simp; done) | decide), (by rw [hz, hu, show (i + 1).toNat = i.toNat + 1 by omega]; exact refLittle_step v i.toNat), (by rw [List.length_append, hzl]; simp; omega), (by rw [hu, show (i + 1).toNat = i.toNat + 1 by omega, Int.pow_succ, Int.ediv_ediv_of_nonneg (Int.le_of_lt (pow_pos' _))]), (by omega), (by first | assumption | omega | (simp only [List.length_append, List.length_cons, List.length_nil, List.length_set, List.length_replicate, List.length_take, List.length_drop]; omega) | (simp only [fits] at *; omega) | (simp only [List.length_append, List.length_cons, List.length_nil, List.length_set, List.length_replicate, List.length_take, List.length_drop] at *; omega) | (simp; done) | decide), (fun h => hA6 (by first | exact h | (simp at h ⊢; omega))), rfl, (by rfl), (by rfl)⟩
    show ((n - (i + 1)).toNat : Nat) < ((n - i).toNat : Nat)
    omega
  · skip
    refine RunC.exit ?_
    refine kseq_e ?_
    refine kloop_e ?_
    refine kblock_e ?_
    refine kseq_n ?_
    refine RunC.seq ?_
    refine RunC.region ?_
    refine RunR.sil hU [] 2 2 [4] [(4, .slice A zs.length c)] ((True) ∧ (True) ∧ True) rfl (by kernel_rfl) ⟨trivial, trivial, trivial⟩ ?_
    refine RunR.done (by kernel_rfl) ?_
    refine kseq_n ?_
    refine RunC.ret ?_
    refine kret_r [.slice A zs.length c] [0] [row 5 1 (.slice A zs.length c) zs.length (nums .u8 zs)] ⟨rfl, trivial⟩ (by kernel_rfl) rfl ⟨A, c, zs, rfl, rfl, (by rw [hz, show i = n by omega]), (by omega), (by rw [hz]; exact leB_in _ _), (by exact hc), (by exact hA)⟩

theorem r_Back_spec (A : Option Addr) (c : Nat) (xs : List Int) (l_xs : Nat) (hx : In .u8 xs) (hn : xs.length ≤ 140737488351232) (hl_xs : xs.length = l_xs) :
    CallsS Try.prog 31 [.slice A l_xs c] [vw A (nums .u8 xs)] (fun r D => ∃ (A2 : Option Addr) (c2 : Nat) (zs : List Int), r = .slice A2 zs.length c2 ∧ D = [row 5 1 (.slice A2 zs.length c2) zs.length (nums .u8 zs)] ∧ (zs = xs.reverse) ∧ (zs.length = xs.length) ∧ (In .u8 zs) ∧ (zs.length ≤ c2) ∧ (0 < zs.length → Option.isSome A2 = true)) := by
  subst hl_xs
  refine CallsS.enter hU Try.f31 _ [.tmp 2] 20 Try.func31 rfl (by decide) rfl rfl (by kernel_rfl) fun w0 W => ?_
  refine RunC.know (p := 0 < xs.length → Option.isSome A = true) (fun w hs => vw_some hs 0 rfl (by simp [nums_length])) (fun hA1 => ?_)
  refine RunC.seq ?_
  refine RunC.region ?_
  refine RunR.sil hU [] 1 1 [0, 2] [(0, .slice A xs.length c), (2, .slice none 0 0)] ((True) ∧ True) rfl (by kernel_rfl) ⟨trivial, trivial⟩ ?_
  refine RunR.done (by kernel_rfl) ?_
  refine kseq_n ?_
  refine RunC.seq ?_
  refine RunC.region ?_
  refine RunR.sil hU [] 1 1 [0, 2, 3] [(0, .slice A xs.length c), (2, .slice none 0 0), (3, .slice none 0 0)] ((True) ∧ True) rfl (by kernel_rfl) ⟨trivial, trivial⟩ ?_
  refine RunR.done (by kernel_rfl) ?_
  refine kseq_n ?_
  refine RunC.seq ?_
  refine RunC.seq ?_
  refine RunC.region ?_
  refine RunR.sil hU [2] 4 4 [0, 2, 3, 4] [(0, .slice A xs.length c), (2, .slice none 0 0), (3, .slice none 0 0), (4, .int .i64 (((xs.length : Nat) : Int) - 1))] ((True) ∧ (True) ∧ (-9223372036854775808 ≤ (((xs.length : Nat) : Int) - 1) ∧ (((xs.length : Nat) : Int) - 1) < 9223372036854775808) ∧ (True) ∧ True) rfl (by kernel_rfl) ⟨trivial, trivial, (by omega), trivial, trivial⟩ ?_
  refine RunR.done (by kernel_rfl) ?_
  refine kseq_n ?_
  refine RunC.block ?_
  refine RunC.turn ([row 5 1 (.slice none 0 0) 0 (nums .u8 ([] : List Int)), vw A (nums .u8 xs)]) (fun w hs => hs.nil_row 5 1) ?_
  refine RunC.env [0, 2, 3, 4] [(0, .slice A xs.length c), (2, .slice none 0 0), (3, .slice none 0 0), (4, .int .i64 (((xs.length : Nat) : Int) - 1))] (by kernel_rfl) ?_
  refine RunC.only [0, 0] [row 5 1 (.slice none 0 0) 0 (nums .u8 ([] : List Int)), vw A (nums .u8 xs)] (by kernel_rfl) ?_
  refine RunC.loop (σ := Nat) (fun n_ t_ D_ => ∃ (i : Int) (zs : List Int) (A2 : Option Addr) (c2 : Nat), (-1 ≤ i) ∧ (i < (xs.length : Int)) ∧ (zs = (xs.drop (i + 1).toNat).reverse) ∧ (zs.length + (i + 1).toNat = xs.length) ∧ (zs.length ≤ c2) ∧ (0 < zs.length → Option.isSome A2 = true) ∧ n_ = ((i + 1).toNat : Nat) ∧ t_ = [(0, .slice A xs.length c), (2, .slice none 0 0), (3, .slice A2 zs.length c2), (4, .int .i64 i)] ∧ D_ = [row 5 1 (.slice A2 zs.length c2) zs.length (nums .u8 zs), vw A (nums .u8 xs)]) id _ ⟨(((xs.length : Nat) : Int) - 1), ([] : List Int), none, 0, (by first | assumption | omega | (simp only [List.length_append, List.length_cons, List.length_nil, List.length_set, List.length_replicate, List.length_take, List.length_drop]; omega) | (simp only [fits] at *; omega) | (simp only [List.length_append, List.length_cons, List.length_nil, List.length_set, List.length_replicate, List.length_take, List.length_drop] at *; omega) | (simp; done) | decide), (by first | assumption | omega | (simp only [List.length_append, List.length_cons, List.length_nil, List.length_set, List.length_replicate, List.length_take, List.length_drop]; omega) | (simp only [fits] at *; omega) | (simp only [List.length_append, List.length_cons, List.length_nil, List.length_set, List.length_replicate, List.length_take, List.length_drop] at *; omega) | (simp; done) | decide), (by simp [show ((xs.length : Int) - 1 + 1).toNat = xs.length by omega]), (by simp only [List.length_nil]; omega), (by exact Nat.le_refl _), (by intro h; simp at h), rfl, rfl, rfl⟩ ?_
  rintro n_ _ _ ⟨i, zs, A2, c2, hi, hin, hz, hzl, hc, hA, rfl, rfl, rfl⟩
  refine RunC.seq ?_
  refine RunC.seq ?_
  refine RunC.region ?_
  refine RunR.sil hU [] 2 2 [0, 2, 3, 4, 9] [(0, .slice A xs.length c), (2, .slice none 0 0), (3, .slice A2 zs.length c2), (4, .int .i64 i), (9, .bool (decide (i ≥ 0)))] ((True) ∧ (True) ∧ True) rfl (by kernel_rfl) ⟨trivial, trivial, trivial⟩ ?_
  refine RunR.done (by kernel_rfl) ?_
  refine kseq_n ?_
  refine RunC.condp (i ≥ 0) (by kernel_rfl) (fun h2 => ?_) (fun h2 => ?_)
  · skip
    refine RunC.skip ?_
    refine kseq_n ?_
    refine RunC.seq ?_
    refine RunC.block ?_
    refine RunC.region ?_
    refine RunR.sil hU [] 4 4 [0, 2, 3, 4, 12, 15] [(0, .slice A xs.length c), (2, .slice none 0 0), (3, .slice A2 zs.length c2), (4, .int .i64 i), (12, .slice A2 zs.length c2), (15, .pointer (elemAt A i 1))] ((True) ∧ (True) ∧ (True) ∧ ((0 ≤ i ∧ i < ((xs.length : Nat) : Int)) ∧ Option.isSome A = true) ∧ True) rfl (by kernel_rfl) ⟨trivial, trivial, trivial, ⟨by omega, hA1 (by omega)⟩, trivial⟩ ?_
    refine RunR.step (dst := some 16) (op := .load 5 (.tmp 15)) (by kernel_rfl) (Step.load_num hU 1 (vw A (nums .u8 xs)) A i .u8 xs rfl (by kernel_rfl) (by kernel_rfl) (tells_vw _ _) (by kernel_rfl) (by omega) ?_)
    have hb3 : 0 ≤ xs.getD ((i).toNat) 0 ∧ xs.getD ((i).toNat) 0 < 256 := hx.at_ _
    refine RunR.step (dst := some 17) (op := .buildSlice 22 1 #[(0, .tmp 16)]) (by kernel_rfl) (Step.lit_nums hU 5 1 .u8 (.int .u8 0) ([xs.getD (i).toNat 0] : List Int) rfl rfl (by kernel_rfl) rfl rfl (by kernel_rfl) (fun b4 => ?_))
    have hl9 : (([xs.getD (i).toNat 0] : List Int)).length = 1 := rfl
    refine RunR.step (dst := some 18) (op := .call { callee := .builtin .append, args := #[.tmp 12, .tmp 17], argTypes := #[22, 22] }) (by kernel_rfl) (Step.append_nums hU 5 1 (.int .u8 0) .u8 1 0 A2 zs.length c2 zs (some ⟨b4, 0, none⟩) 1 1 (row 5 1 (.slice (some ⟨b4, 0, none⟩) 1 1) 1 (nums .u8 ([xs.getD (i).toNat 0] : List Int))) ([xs.getD (i).toNat 0] : List Int) rfl rfl rfl (by kernel_rfl) (by kernel_rfl) (by kernel_rfl) (by kernel_rfl) (tells_row _ _ _ _ _ _) (by first | rfl | omega | (simp; omega)) (by first | rfl | omega | (simp; omega)) (by omega) (by omega) (by kernel_rfl) (fun A5 c6 hc7 hA8 => ?_))
    have hl10 : (zs ++ ([xs.getD (i).toNat 0] : List Int)).length = zs.length + ([xs.getD (i).toNat 0] : List Int).length := List.length_append
    simp only [List.length_cons, List.length_nil] at hl10
    refine RunR.sil hU [] 1 8 [0, 2, 3, 4] [(0, .slice A xs.length c), (2, .slice none 0 0), (3, .slice A5 ((zs ++ ([xs.getD (i).toNat 0] : List Int)).length) c6), (4, .int .i64 i)] ((True) ∧ True) rfl (by kernel_rfl) ⟨trivial, trivial⟩ ?_
    refine RunR.done (by kernel_rfl) ?_
    refine kblock_n ?_
    refine kseq_n ?_
    refine RunC.region ?_
    refine RunR.sil hU [1] 3 3 [0, 2, 3, 4] [(0, .slice A xs.length c), (2, .slice none 0 0), (3, .slice A5 ((zs ++ ([xs.getD (i).toNat 0] : List Int)).length) c6), (4, .int .i64 (i - 1))] ((True) ∧ (-9223372036854775808 ≤ (i - 1) ∧ (i - 1) < 9223372036854775808) ∧ (True) ∧ True) rfl (by kernel_rfl) ⟨trivial, (by omega), trivial, trivial⟩ ?_
    refine RunR.done (by kernel_rfl) ?_
    refine kloop_n _ [0, 2, 3, 4] [0, 1] [(0, .slice A xs.length c), (2, .slice none 0 0), (3, .slice A5 ((zs ++ ([xs.getD (i).toNat 0] : List Int)).length) c6), (4, .int .i64 (i - 1))] [row 5 1 (.slice A5 ((zs ++ ([xs.getD (i).toNat 0] : List Int)).length) c6) ((zs ++ ([xs.getD (i).toNat 0] : List Int)).length) (nums .u8 (zs ++ ([xs.getD (i).toNat 0] : List Int))), vw A (nums .u8 xs)] (by kernel_rfl) (by kernel_rfl) ?_ ⟨(i - 1), (zs ++ ([xs.getD (i).toNat 0] : List Int)), A5, c6, (by first | assumption | omega | (simp only [List.length_append, List.length_cons, List.length_nil, List.length_set, List.length_replicate, List.length_take, List.length_drop]; omega) | (simp only [fits] at *; omega) | (simp only [List.length_append, List.length_cons, List.length_nil, List.length_set, List.length_replicate, List.length_take, List.length_drop] at *; omega) | (simp; done) | decide), (by first | assumption | omega | (simp only [List.length_append, List.length_cons, List.length_nil, List.length_set, List.length_replicate, List.length_take, List.length_drop]; omega) | (simp only [fits] at *; omega) | (simp only [List.length_append, List.length_cons, List.length_nil, List.length_set, List.length_replicate, List.length_take, List.length_drop] at *; omega) | (simp; done) | decide), (by rw [hz, show (i - 1 + 1).toNat = i.toNat by omega, show (i + 1).toNat = i.toNat + 1 by omega]; exact (drop_rev xs i.toNat (by omega)).symm), (by rw [List.length_append]; simp only [List.length_cons, List.length_nil]; omega), (by first | assumption | omega | (simp only [List.length_append, List.length_cons, List.length_nil, List.length_set, List.length_replicate, List.length_take, List.length_drop]; omega) | (simp only [fits] at *; omega) | (simp only [List.length_append, List.length_cons, List.length_nil, List.length_set, List.length_replicate, List.length_take, List.length_drop] at *; omega) | (simp; done) | decide), (fun h => hA8 (by first | exact h | (simp at h ⊢; omega))), rfl, (by rfl), (by rfl)⟩
    show (((i - 1) + 1).toNat : Nat) < ((i + 1).toNat : Nat)
    omega
  · skip
    refine RunC.exit ?_
    refine kseq_e ?_
    refine kloop_e ?_
    refine kblock_e ?_
    refine kseq_n ?_
    refine RunC.seq ?_
    refine RunC.region ?_
    refine RunR.sil hU [] 2 2 [2] [(2, .slice A2 zs.length c2)] ((True) ∧ (True) ∧ True) rfl (by kernel_rfl) ⟨trivial, trivial, trivial⟩ ?_
    refine RunR.done (by kernel_rfl) ?_
    refine kseq_n ?_
    refine RunC.ret ?_
    refine kret_r [.slice A2 zs.length c2] [0] [row 5 1 (.slice A2 zs.length c2) zs.length (nums .u8 zs)] ⟨rfl, trivial⟩ (by kernel_rfl) rfl ⟨A2, c2, zs, rfl, rfl, (by rw [hz, show i = -1 by omega]; simp), (by omega), (by rw [hz]; exact In.rev (hx.drop _)), (by exact hc), (by exact hA)⟩

theorem r_Equal_spec (A : Option Addr) (c : Nat) (xs : List Int) (A2 : Option Addr) (c2 : Nat) (ys : List Int) (l_xs : Nat) (l_ys : Nat) (hx : In .u8 xs) (hn : xs.length ≤ 140737488351232) (hy : In .u8 ys) (hm : ys.length ≤ 140737488351232) (hl_xs : xs.length = l_xs) (hl_ys : ys.length = l_ys) :
    CallsS Try.prog 18 [.slice A l_xs c, .slice A2 l_ys c2] [vw A (nums .u8 xs), vw A2 (nums .u8 ys)] (fun r D => r = .bool (decide (xs = ys)) ∧ D = []) := by
  subst hl_xs
  subst hl_ys
  refine CallsS.enter hU Try.f18 _ [.tmp 4] 26 Try.func18 rfl (by decide) rfl rfl (by kernel_rfl) fun w0 W => ?_
  refine RunC.know (p := 0 < xs.length → Option.isSome A = true) (fun w hs => vw_some hs 0 rfl (by simp [nums_length])) (fun hA1 => ?_)
  refine RunC.know (p := 0 < ys.length → Option.isSome A2 = true) (fun w hs => vw_some hs 1 rfl (by simp [nums_length])) (fun hA2 => ?_)
  refine RunC.seq ?_
  refine RunC.region ?_
  refine RunR.sil hU [] 1 1 [0, 1, 4] [(0, .slice A xs.length c), (1, .slice A2 ys.length c2), (4, .bool false)] ((True) ∧ True) rfl (by kernel_rfl) ⟨trivial, trivial⟩ ?_
  refine RunR.done (by kernel_rfl) ?_
  refine kseq_n ?_
  refine RunC.seq ?_
  refine RunC.seq ?_
  refine RunC.region ?_
  refine RunR.sil hU [] 5 5 [0, 1, 4, 10] [(0, .slice A xs.length c), (1, .slice A2 ys.length c2), (4, .bool false), (10, .bool (!decide (((xs.length : Nat) : Int) = ((ys.length : Nat) : Int))))] ((True) ∧ (True) ∧ (True) ∧ (True) ∧ (True) ∧ True) rfl (by kernel_rfl) ⟨trivial, trivial, trivial, trivial, trivial, trivial⟩ ?_
  refine RunR.done (by kernel_rfl) ?_
  refine kseq_n ?_
  refine RunC.condn (((xs.length : Nat) : Int) = ((ys.length : Nat) : Int)) (by kernel_rfl) (fun h3 => ?_) (fun h3 => ?_)
  · skip
    refine RunC.seq ?_
    refine RunC.region ?_
    refine RunR.sil hU [] 1 1 [0, 1, 4] [(0, .slice A xs.length c), (1, .slice A2 ys.length c2), (4, .bool false)] ((True) ∧ True) rfl (by kernel_rfl) ⟨trivial, trivial⟩ ?_
    refine RunR.done (by kernel_rfl) ?_
    refine kseq_n ?_
    refine RunC.ret ?_
    refine kseq_r ?_
    refine kret_r [.bool false] [] [] ⟨rfl, trivial⟩ (by kernel_rfl) rfl ⟨(by first | rfl | (exact congrArg Value.bool (decide_eq_false (fun e => absurd (congrArg List.length e) (by omega))).symm)), (by first | rfl | (exact congrArg Value.bool (decide_eq_false (fun e => absurd (congrArg List.length e) (by omega))).symm))⟩
  · skip
    refine RunC.skip ?_
    refine kseq_n ?_
    refine RunC.seq ?_
    refine RunC.seq ?_
    refine RunC.region ?_
    refine RunR.sil hU [] 1 1 [0, 1, 4, 5] [(0, .slice A xs.length c), (1, .slice A2 ys.length c2), (4, .bool false), (5, .int .i64 0)] ((True) ∧ True) rfl (by kernel_rfl) ⟨trivial, trivial⟩ ?_
    refine RunR.done (by kernel_rfl) ?_
    refine kseq_n ?_
    refine RunC.block ?_
    refine RunC.env [0, 1, 5] [(0, .slice A xs.length c), (1, .slice A2 ys.length c2), (5, .int .i64 0)] (by kernel_rfl) ?_
    refine RunC.only [0, 0] [vw A (nums .u8 xs), vw A2 (nums .u8 ys)] (by kernel_rfl) ?_
    refine RunC.loop (σ := Nat) (fun n_ t_ D_ => ∃ (i : Int), (0 ≤ i) ∧ (i ≤ (xs.length : Int)) ∧ (xs.take i.toNat = ys.take i.toNat) ∧ n_ = ((xs.length - i).toNat : Nat) ∧ t_ = [(0, .slice A xs.length c), (1, .slice A2 ys.length c2), (5, .int .i64 i)] ∧ D_ = [vw A (nums .u8 xs), vw A2 (nums .u8 ys)]) id _ ⟨0, (by first | assumption | omega | (simp only [List.length_append, List.length_cons, List.length_nil, List.length_set, List.length_replicate, List.length_take, List.length_drop]; omega) | (simp only [fits] at *; omega) | (simp only [List.length_append, List.length_cons, List.length_nil, List.length_set, List.length_replicate, List.length_take, List.length_drop] at *; omega) | (simp; done) | decide), (by first | assumption | omega | (simp only [List.length_append, List.length_cons, List.length_nil, List.length_set, List.length_replicate, List.length_take, List.length_drop]; omega) | (simp only [fits] at *; omega) | (simp only [List.length_append, List.length_cons, List.length_nil, List.length_set, List.length_replicate, List.length_take, List.length_drop] at *; omega) | (simp; done) | decide), (by simp), rfl, rfl, rfl⟩ ?_
    rintro n_ _ _ ⟨i, hi, hin, he, rfl, rfl, rfl⟩
    refine RunC.seq ?_
    refine RunC.seq ?_
    refine RunC.region ?_
    refine RunR.sil hU [] 4 4 [0, 1, 5, 14] [(0, .slice A xs.length c), (1, .slice A2 ys.length c2), (5, .int .i64 i), (14, .bool (decide (i < ((xs.length : Nat) : Int))))] ((True) ∧ (True) ∧ (True) ∧ (True) ∧ True) rfl (by kernel_rfl) ⟨trivial, trivial, trivial, trivial, trivial⟩ ?_
    refine RunR.done (by kernel_rfl) ?_
    refine kseq_n ?_
    refine RunC.condp (i < ((xs.length : Nat) : Int)) (by kernel_rfl) (fun h4 => ?_) (fun h4 => ?_)
    · skip
      refine RunC.skip ?_
      refine kseq_n ?_
      refine RunC.seq ?_
      refine RunC.block ?_
      refine RunC.seq ?_
      refine RunC.regionU hU 9 [vw A (nums .u8 xs), vw A2 (nums .u8 ys)] [0, 1] [] #[false, false, false, false, false, false, false, false, false] (by kernel_rfl) (by kernel_rfl) (by kernel_rfl) ?_
      refine RunU.sil hU false 0 #[true, false, false, false, false, false, false, false, false] 17 (.slice A xs.length c) (True) (by kernel_rfl) trivial (by kernel_rfl) (by kernel_rfl) (fun _ _ _ h => h) ?_
      refine RunU.sil hU false 1 #[true, true, false, false, false, false, false, false, false] 18 (.int .i64 i) (True) (by kernel_rfl) trivial (by kernel_rfl) (by kernel_rfl) (fun _ _ _ h => h) ?_
      refine RunU.sil hU false 2 #[true, true, true, false, false, false, false, false, false] 19 (.pointer (elemAt A i 1)) ((0 ≤ i ∧ i < ((xs.length : Nat) : Int)) ∧ Option.isSome A = true) (by kernel_rfl) ⟨by omega, hA1 (by omega)⟩ (by kernel_rfl) (by kernel_rfl) (fun _ _ _ h => h) ?_
      refine RunU.read 3 #[true, true, true, true, false, false, false, false, false] 20 (.load 5 (.tmp 19)) (.int .u8 (xs.getD (i).toNat 0)) [0, 1] (by kernel_rfl) (Reads.load_num hU 0 (vw A (nums .u8 xs)) A i .u8 xs rfl (by kernel_rfl) (by kernel_rfl) (tells_vw _ _) (by omega)) (by kernel_rfl) (by kernel_rfl) (by kernel_rfl) (by kernel_rfl) (fun _ _ _ h => h) ?_
      have hb5 : 0 ≤ xs.getD ((i).toNat) 0 ∧ xs.getD ((i).toNat) 0 < 256 := hx.at_ _
      refine RunU.sil hU false 4 #[true, true, true, true, true, false, false, false, false] 21 (.slice A2 ys.length c2) (True) (by kernel_rfl) trivial (by kernel_rfl) (by kernel_rfl) (fun _ _ _ h => h) ?_
      refine RunU.sil hU false 5 #[true, true, true, true, true, true, false, false, false] 22 (.int .i64 i) (True) (by kernel_rfl) trivial (by kernel_rfl) (by kernel_rfl) (fun _ _ _ h => h) ?_
      refine RunU.sil hU false 6 #[true, true, true, true, true, true, true, false, false] 23 (.pointer (elemAt A2 i 1)) ((0 ≤ i ∧ i < ((ys.length : Nat) : Int)) ∧ Option.isSome A2 = true) (by kernel_rfl) ⟨by omega, hA2 (by omega)⟩ (by kernel_rfl) (by kernel_rfl) (fun _ _ _ h => h) ?_
      refine RunU.read 7 #[true, true, true, true, true, true, true, true, false] 24 (.load 5 (.tmp 23)) (.int .u8 (ys.getD (i).toNat 0)) [0, 1] (by kernel_rfl) (Reads.load_num hU 1 (vw A2 (nums .u8 ys)) A2 i .u8 ys rfl (by kernel_rfl) (by kernel_rfl) (tells_vw _ _) (by omega)) (by kernel_rfl) (by kernel_rfl) (by kernel_rfl) (by kernel_rfl) (fun _ _ _ h => h) ?_
      have hb6 : 0 ≤ ys.getD ((i).toNat) 0 ∧ ys.getD ((i).toNat) 0 < 256 := hy.at_ _
      refine RunU.sil hU false 8 #[true, true, true, true, true, true, true, true, true] 25 (.bool (!decide ((xs.getD (i).toNat 0) = (ys.getD (i).toNat 0)))) (True) (by kernel_rfl) trivial (by kernel_rfl) (by kernel_rfl) (fun _ _ _ h => h) ?_
      refine RunU.env [0, 1, 5, 25] [(0, .slice A xs.length c), (1, .slice A2 ys.length c2), (5, .int .i64 i), (25, .bool (!decide ((xs.getD (i).toNat 0) = (ys.getD (i).toNat 0))))] (by kernel_rfl) ?_
      refine RunU.done (by kernel_rfl) ?_
      refine kseq_n ?_
      refine RunC.condn ((xs.getD (i).toNat 0) = (ys.getD (i).toNat 0)) (by kernel_rfl) (fun h7 => ?_) (fun h7 => ?_)
      · skip
        refine RunC.seq ?_
        refine RunC.region ?_
        refine RunR.sil hU [] 1 1 [0, 1, 4, 5] [(0, .slice A xs.length c), (1, .slice A2 ys.length c2), (4, .bool false), (5, .int .i64 i)] ((True) ∧ True) rfl (by kernel_rfl) ⟨trivial, trivial⟩ ?_
        refine RunR.done (by kernel_rfl) ?_
        refine kseq_n ?_
        refine RunC.ret ?_
        refine kblock_r ?_
        refine kseq_r ?_
        refine kloop_r ?_
        refine kblock_r ?_
        refine kseq_r ?_
        refine kret_r [.bool false] [] [] ⟨rfl, trivial⟩ (by kernel_rfl) rfl ⟨(by first | rfl | (exact congrArg Value.bool (decide_eq_false (ne_of_getD (by assumption))).symm)), (by first | rfl | (exact congrArg Value.bool (decide_eq_false (ne_of_getD (by assumption))).symm))⟩
      · skip
        refine RunC.skip ?_
        refine kblock_n ?_
        refine kseq_n ?_
        refine RunC.region ?_
        refine RunR.sil hU [1] 3 3 [0, 1, 5] [(0, .slice A xs.length c), (1, .slice A2 ys.length c2), (5, .int .i64 (i + 1))] ((True) ∧ (-9223372036854775808 ≤ (i + 1) ∧ (i + 1) < 9223372036854775808) ∧ (True) ∧ True) rfl (by kernel_rfl) ⟨trivial, (by omega), trivial, trivial⟩ ?_
        refine RunR.done (by kernel_rfl) ?_
        refine kloop_n _ [0, 1, 5] [0, 0] [(0, .slice A xs.length c), (1, .slice A2 ys.length c2), (5, .int .i64 (i + 1))] [vw A (nums .u8 xs), vw A2 (nums .u8 ys)] (by kernel_rfl) (by kernel_rfl) ?_ ⟨(i + 1), (by first | assumption | omega | (simp only [List.length_append, List.length_cons, List.length_nil, List.length_set, List.length_replicate, List.length_take, List.length_drop]; omega) | (simp only [fits] at *; omega) | (simp only [List.length_append, List.length_cons, List.length_nil, List.length_set, List.length_replicate, List.length_take, List.length_drop] at *; omega) | (simp; done) | decide), (by first | assumption | omega | (simp only [List.length_append, List.length_cons, List.length_nil, List.length_set, List.length_replicate, List.length_take, List.length_drop]; omega) | (simp only [fits] at *; omega) | (simp only [List.length_append, List.length_cons, List.length_nil, List.length_set, List.length_replicate, List.length_take, List.length_drop] at *; omega) | (simp; done) | decide), (by rw [show (i + 1).toNat = i.toNat + 1 by omega]; exact (take_eq_succ (by omega) (by omega)).2 ⟨he, by omega⟩), rfl, (by rfl), (by rfl)⟩
        show ((xs.length - (i + 1)).toNat : Nat) < ((xs.length - i).toNat : Nat)
        omega
    · skip
      refine RunC.exit ?_
      refine kseq_e ?_
      refine kloop_e ?_
      refine kblock_e ?_
      refine kseq_n ?_
      refine RunC.seq ?_
      refine RunC.region ?_
      refine RunR.sil hU [] 1 1 [4] [(4, .bool true)] ((True) ∧ True) rfl (by kernel_rfl) ⟨trivial, trivial⟩ ?_
      refine RunR.done (by kernel_rfl) ?_
      refine kseq_n ?_
      refine RunC.ret ?_
      refine kret_r [.bool true] [] [] ⟨rfl, trivial⟩ (by kernel_rfl) rfl ⟨(by first | rfl | (exact congrArg Value.bool (decide_eq_true (eq_of_take (by omega) (by omega) he)).symm)), (by first | rfl | (exact congrArg Value.bool (decide_eq_true (eq_of_take (by omega) (by omega) he)).symm))⟩

theorem w_Equal_spec (A : Option Addr) (c : Nat) (xs : List Int) (A2 : Option Addr) (c2 : Nat) (ys : List Int) (l_xs : Nat) (l_ys : Nat) (hx : In .u8 xs) (hn : xs.length ≤ 140737488351232) (hy : In .u8 ys) (hm : ys.length ≤ 140737488351232) (hl_xs : xs.length = l_xs) (hl_ys : ys.length = l_ys) :
    CallsS Try.prog 25 [.slice A l_xs c, .slice A2 l_ys c2] [vw A (nums .u8 xs), vw A2 (nums .u8 ys)] (fun r D => r = .bool (decide (xs = ys)) ∧ D = []) := by
  subst hl_xs
  subst hl_ys
  refine CallsS.enter hU Try.f25 _ [.tmp 4] 31 Try.func25 rfl (by decide) rfl rfl (by kernel_rfl) fun w0 W => ?_
  refine RunC.know (p := 0 < xs.length → Option.isSome A = true) (fun w hs => vw_some hs 0 rfl (by simp [nums_length])) (fun hA1 => ?_)
  refine RunC.know (p := 0 < ys.length → Option.isSome A2 = true) (fun w hs => vw_some hs 1 rfl (by simp [nums_length])) (fun hA2 => ?_)
  refine RunC.seq ?_
  refine RunC.region ?_
  refine RunR.sil hU [] 1 1 [0, 1, 4] [(0, .slice A xs.length c), (1, .slice A2 ys.length c2), (4, .bool false)] ((True) ∧ True) rfl (by kernel_rfl) ⟨trivial, trivial⟩ ?_
  refine RunR.done (by kernel_rfl) ?_
  refine kseq_n ?_
  refine RunC.seq ?_
  refine RunC.seq ?_
  refine RunC.region ?_
  refine RunR.sil hU [] 5 5 [0, 1, 4, 11] [(0, .slice A xs.length c), (1, .slice A2 ys.length c2), (4, .bool false), (11, .bool (!decide (((xs.length : Nat) : Int) = ((ys.length : Nat) : Int))))] ((True) ∧ (True) ∧ (True) ∧ (True) ∧ (True) ∧ True) rfl (by kernel_rfl) ⟨trivial, trivial, trivial, trivial, trivial, trivial⟩ ?_
  refine RunR.done (by kernel_rfl) ?_
  refine kseq_n ?_
  refine RunC.condn (((xs.length : Nat) : Int) = ((ys.length : Nat) : Int)) (by kernel_rfl) (fun h3 => ?_) (fun h3 => ?_)
  · skip
    refine RunC.seq ?_
    refine RunC.region ?_
    refine RunR.sil hU [] 1 1 [0, 1, 4] [(0, .slice A xs.length c), (1, .slice A2 ys.length c2), (4, .bool false)] ((True) ∧ True) rfl (by kernel_rfl) ⟨trivial, trivial⟩ ?_
    refine RunR.done (by kernel_rfl) ?_
    refine kseq_n ?_
    refine RunC.ret ?_
    refine kseq_r ?_
    refine kret_r [.bool false] [] [] ⟨rfl, trivial⟩ (by kernel_rfl) rfl ⟨(by first | rfl | (exact congrArg Value.bool (decide_eq_false (fun e => absurd (congrArg List.length e) (by omega))).symm)), (by first | rfl | (exact congrArg Value.bool (decide_eq_false (fun e => absurd (congrArg List.length e) (by omega))).symm))⟩
  · skip
    refine RunC.skip ?_
    refine kseq_n ?_
    refine RunC.seq ?_
    refine RunC.region ?_
    refine RunR.sil hU [] 1 1 [0, 1, 4, 5] [(0, .slice A xs.length c), (1, .slice A2 ys.length c2), (4, .bool false), (5, .int .u8 0)] ((True) ∧ True) rfl (by kernel_rfl) ⟨trivial, trivial⟩ ?_
    refine RunR.done (by kernel_rfl) ?_
    refine kseq_n ?_
    refine RunC.seq ?_
    refine RunC.seq ?_
    refine RunC.region ?_
    refine RunR.sil hU [] 3 3 [0, 1, 4, 5, 13, 14] [(0, .slice A xs.length c), (1, .slice A2 ys.length c2), (4, .bool false), (5, .int .u8 0), (13, .int .i64 ((xs.length : Nat) : Int)), (14, .int .i64 0)] ((True) ∧ (True) ∧ (True) ∧ True) rfl (by kernel_rfl) ⟨trivial, trivial, trivial, trivial⟩ ?_
    refine RunR.done (by kernel_rfl) ?_
    refine kseq_n ?_
    refine RunC.block ?_
    refine RunC.env [0, 1, 4, 5, 13, 14] [(0, .slice A xs.length c), (1, .slice A2 ys.length c2), (4, .bool false), (5, .int .u8 0), (13, .int .i64 ((xs.length : Nat) : Int)), (14, .int .i64 0)] (by kernel_rfl) ?_
    refine RunC.only [0, 0] [vw A (nums .u8 xs), vw A2 (nums .u8 ys)] (by kernel_rfl) ?_
    refine RunC.loop (σ := Nat) (fun n_ t_ D_ => ∃ (i : Int) (d : Int), (0 ≤ i) ∧ (i ≤ (xs.length : Int)) ∧ (0 ≤ d ∧ d < 256) ∧ (d = 0 ↔ xs.take i.toNat = ys.take i.toNat) ∧ n_ = ((xs.length - i).toNat : Nat) ∧ t_ = [(0, .slice A xs.length c), (1, .slice A2 ys.length c2), (4, .bool false), (5, .int .u8 d), (13, .int .i64 ((xs.length : Nat) : Int)), (14, .int .i64 i)] ∧ D_ = [vw A (nums .u8 xs), vw A2 (nums .u8 ys)]) id _ ⟨0, 0, (by first | assumption | omega | (simp only [List.length_append, List.length_cons, List.length_nil, List.length_set, List.length_replicate, List.length_take, List.length_drop]; omega) | (simp only [fits] at *; omega) | (simp only [List.length_append, List.length_cons, List.length_nil, List.length_set, List.length_replicate, List.length_take, List.length_drop] at *; omega) | (simp; done) | decide), (by first | assumption | omega | (simp only [List.length_append, List.length_cons, List.length_nil, List.length_set, List.length_replicate, List.length_take, List.length_drop]; omega) | (simp only [fits] at *; omega) | (simp only [List.length_append, List.length_cons, List.length_nil, List.length_set, List.length_replicate, List.length_take, List.length_drop] at *; omega) | (simp; done) | decide), (by first | assumption | omega | (simp only [List.length_append, List.length_cons, List.length_nil, List.length_set, List.length_replicate, List.length_take, List.length_drop]; omega) | (simp only [fits] at *; omega) | (simp only [List.length_append, List.length_cons, List.length_nil, List.length_set, List.length_replicate, List.length_take, List.length_drop] at *; omega) | (simp; done) | decide), (by simp), rfl, rfl, rfl⟩ ?_
    rintro n_ _ _ ⟨i, d, hi, hin, hd, he, rfl, rfl, rfl⟩
    refine RunC.seq ?_
    refine RunC.region ?_
    refine RunR.sil hU [] 1 1 [0, 1, 4, 5, 13, 14, 15] [(0, .slice A xs.length c), (1, .slice A2 ys.length c2), (4, .bool false), (5, .int .u8 d), (13, .int .i64 ((xs.length : Nat) : Int)), (14, .int .i64 i), (15, .bool (decide (i < ((xs.length : Nat) : Int))))] ((True) ∧ True) rfl (by kernel_rfl) ⟨trivial, trivial⟩ ?_
    refine RunR.done (by kernel_rfl) ?_
    refine kseq_n ?_
    refine RunC.seq ?_
    refine RunC.condp (i < ((xs.length : Nat) : Int)) (by kernel_rfl) (fun h4 => ?_) (fun h4 => ?_)
    · skip
      refine RunC.skip ?_
      refine kseq_n ?_
      refine RunC.seq ?_
      refine RunC.block ?_
      refine RunC.seq ?_
      refine RunC.region ?_
      refine RunR.sil hU [] 2 2 [0, 1, 4, 5, 6, 13, 14] [(0, .slice A xs.length c), (1, .slice A2 ys.length c2), (4, .bool false), (5, .int .u8 d), (6, .int .i64 i), (13, .int .i64 ((xs.length : Nat) : Int)), (14, .int .i64 i)] ((True) ∧ (True) ∧ True) rfl (by kernel_rfl) ⟨trivial, trivial, trivial⟩ ?_
      refine RunR.done (by kernel_rfl) ?_
      refine kseq_n ?_
      refine RunC.regionU hU 12 [vw A (nums .u8 xs), vw A2 (nums .u8 ys)] [0, 1] [11] #[false, false, false, false, false, false, false, false, false, false, false, false] (by kernel_rfl) (by kernel_rfl) (by kernel_rfl) ?_
      refine RunU.sil hU false 0 #[true, false, false, false, false, false, false, false, false, false, false, false] 17 (.int .u8 d) (True) (by kernel_rfl) trivial (by kernel_rfl) (by kernel_rfl) (fun _ _ _ h => h) ?_
      refine RunU.sil hU false 1 #[true, true, false, false, false, false, false, false, false, false, false, false] 18 (.slice A xs.length c) (True) (by kernel_rfl) trivial (by kernel_rfl) (by kernel_rfl) (fun _ _ _ h => h) ?_
      refine RunU.sil hU false 2 #[true, true, true, false, false, false, false, false, false, false, false, false] 19 (.int .i64 i) (True) (by kernel_rfl) trivial (by kernel_rfl) (by kernel_rfl) (fun _ _ _ h => h) ?_
      refine RunU.sil hU false 3 #[true, true, true, true, false, false, false, false, false, false, false, false] 20 (.pointer (elemAt A i 1)) ((0 ≤ i ∧ i < ((xs.length : Nat) : Int)) ∧ Option.isSome A = true) (by kernel_rfl) ⟨by omega, hA1 (by omega)⟩ (by kernel_rfl) (by kernel_rfl) (fun _ _ _ h => h) ?_
      refine RunU.read 4 #[true, true, true, true, true, false, false, false, false, false, false, false] 21 (.load 5 (.tmp 20)) (.int .u8 (xs.getD (i).toNat 0)) [0, 1] (by kernel_rfl) (Reads.load_num hU 0 (vw A (nums .u8 xs)) A i .u8 xs rfl (by kernel_rfl) (by kernel_rfl) (tells_vw _ _) (by omega)) (by kernel_rfl) (by kernel_rfl) (by kernel_rfl) (by kernel_rfl) (fun _ _ _ h => h) ?_
      have hb5 : 0 ≤ xs.getD ((i).toNat) 0 ∧ xs.getD ((i).toNat) 0 < 256 := hx.at_ _
      refine RunU.sil hU false 5 #[true, true, true, true, true, true, false, false, false, false, false, false] 22 (.slice A2 ys.length c2) (True) (by kernel_rfl) trivial (by kernel_rfl) (by kernel_rfl) (fun _ _ _ h => h) ?_
      refine RunU.sil hU false 6 #[true, true, true, true, true, true, true, false, false, false, false, false] 23 (.int .i64 i) (True) (by kernel_rfl) trivial (by kernel_rfl) (by kernel_rfl) (fun _ _ _ h => h) ?_
      refine RunU.sil hU false 7 #[true, true, true, true, true, true, true, true, false, false, false, false] 24 (.pointer (elemAt A2 i 1)) ((0 ≤ i ∧ i < ((ys.length : Nat) : Int)) ∧ Option.isSome A2 = true) (by kernel_rfl) ⟨by omega, hA2 (by omega)⟩ (by kernel_rfl) (by kernel_rfl) (fun _ _ _ h => h) ?_
      refine RunU.read 8 #[true, true, true, true, true, true, true, true, true, false, false, false] 25 (.load 5 (.tmp 24)) (.int .u8 (ys.getD (i).toNat 0)) [0, 1] (by kernel_rfl) (Reads.load_num hU 1 (vw A2 (nums .u8 ys)) A2 i .u8 ys rfl (by kernel_rfl) (by kernel_rfl) (tells_vw _ _) (by omega)) (by kernel_rfl) (by kernel_rfl) (by kernel_rfl) (by kernel_rfl) (fun _ _ _ h => h) ?_
      have hb6 : 0 ≤ ys.getD ((i).toNat) 0 ∧ ys.getD ((i).toNat) 0 < 256 := hy.at_ _
      refine RunU.sil hU false 9 #[true, true, true, true, true, true, true, true, true, true, false, false] 26 (.int .u8 (bits2 .xor .u8 (xs.getD (i).toNat 0) (ys.getD (i).toNat 0))) (True) (by kernel_rfl) trivial (by kernel_rfl) (by kernel_rfl) (fun _ _ _ h => h) ?_
      refine RunU.sil hU false 10 #[true, true, true, true, true, true, true, true, true, true, true, false] 27 (.int .u8 (bits2 .or .u8 d (bits2 .xor .u8 (xs.getD (i).toNat 0) (ys.getD (i).toNat 0)))) (True) (by kernel_rfl) trivial (by kernel_rfl) (by kernel_rfl) (fun _ _ _ h => h) ?_
      refine RunU.sil hU false 11 #[true, true, true, true, true, true, true, true, true, true, true, true] 5 (.int .u8 (bits2 .or .u8 d (bits2 .xor .u8 (xs.getD (i).toNat 0) (ys.getD (i).toNat 0)))) (True) (by kernel_rfl) trivial (by kernel_rfl) (by kernel_rfl) (fun _ _ _ h => h) ?_
      refine RunU.env [0, 1, 4, 5, 13, 14] [(0, .slice A xs.length c), (1, .slice A2 ys.length c2), (4, .bool false), (5, .int .u8 (bits2 .or .u8 d (bits2 .xor .u8 (xs.getD (i).toNat 0) (ys.getD (i).toNat 0)))), (13, .int .i64 ((xs.length : Nat) : Int)), (14, .int .i64 i)] (by kernel_rfl) ?_
      refine RunU.done (by kernel_rfl) ?_
      refine kblock_n ?_
      refine kseq_n ?_
      refine RunC.region ?_
      refine RunR.sil hU [0] 2 2 [0, 1, 4, 5, 13, 14] [(0, .slice A xs.length c), (1, .slice A2 ys.length c2), (4, .bool false), (5, .int .u8 (bits2 .or .u8 d (bits2 .xor .u8 (xs.getD (i).toNat 0) (ys.getD (i).toNat 0)))), (13, .int .i64 ((xs.length : Nat) : Int)), (14, .int .i64 (i + 1))] ((-9223372036854775808 ≤ (i + 1) ∧ (i + 1) < 9223372036854775808) ∧ (True) ∧ True) rfl (by kernel_rfl) ⟨(by omega), trivial, trivial⟩ ?_
      refine RunR.done (by kernel_rfl) ?_
      refine kloop_n _ [0, 1, 4, 5, 13, 14] [0, 0] [(0, .slice A xs.length c), (1, .slice A2 ys.length c2), (4, .bool false), (5, .int .u8 (bits2 .or .u8 d (bits2 .xor .u8 (xs.getD (i).toNat 0) (ys.getD (i).toNat 0)))), (13, .int .i64 ((xs.length : Nat) : Int)), (14, .int .i64 (i + 1))] [vw A (nums .u8 xs), vw A2 (nums .u8 ys)] (by kernel_rfl) (by kernel_rfl) ?_ ⟨(i + 1), (bits2 .or .u8 d (bits2 .xor .u8 (xs.getD (i).toNat 0) (ys.getD (i).toNat 0))), (by first | assumption | omega | (simp only [List.length_append, List.length_cons, List.length_nil, List.length_set, List.length_replicate, List.length_take, List.length_drop]; omega) | (simp only [fits] at *; omega) | (simp only [List.length_append, List.length_cons, List.length_nil, List.length_set, List.length_replicate, List.length_take, List.length_drop] at *; omega) | (simp; done) | decide), (by first | assumption | omega | (simp only [List.length_append, List.length_cons, List.length_nil, List.length_set, List.length_replicate, List.length_take, List.length_drop]; omega) | (simp only [fits] at *; omega) | (simp only [List.length_append, List.length_cons, List.length_nil, List.length_set, List.length_replicate, List.length_take, List.length_drop] at *; omega) | (simp; done) | decide), (by exact (or_xor_zero d _ _ hd (hx.at_ _) (hy.at_ _)).1), (by rw [show (i + 1).toNat = i.toNat + 1 by omega, take_eq_succ (by omega) (by omega), ← he]; exact (or_xor_zero d _ _ hd (hx.at_ _) (hy.at_ _)).2), rfl, (by rfl), (by rfl)⟩
      show ((xs.length - (i + 1)).toNat : Nat) < ((xs.length - i).toNat : Nat)
      omega
    · skip
      refine RunC.exit ?_
      refine kseq_e ?_
      refine kloop_e ?_
      refine kblock_e ?_
      refine kseq_n ?_
      refine RunC.seq ?_
      refine RunC.region ?_
      refine RunR.sil hU [] 3 3 [4] [(4, .bool (decide (d = 0)))] ((True) ∧ (True) ∧ (True) ∧ True) rfl (by kernel_rfl) ⟨trivial, trivial, trivial, trivial⟩ ?_
      refine RunR.done (by kernel_rfl) ?_
      refine kseq_n ?_
      refine RunC.ret ?_
      refine kret_r [.bool (decide (d = 0))] [] [] ⟨rfl, trivial⟩ (by kernel_rfl) rfl ⟨(by first | rfl | (exact congrArg Value.bool (decide_eq_decide.2 (he.trans ⟨eq_of_take (by omega) (by omega), fun e => by rw [e]⟩)))), (by first | rfl | (exact congrArg Value.bool (decide_eq_decide.2 (he.trans ⟨eq_of_take (by omega) (by omega), fun e => by rw [e]⟩))))⟩

theorem sl_IndexByte_spec (s : ByteArray) (x : Int) :
    CallsS Try.prog 70 [.string s, .int .u8 x] [] (fun r D => r = .int .i64 (Lib.indexByte (s : ByteArray).data.toList (x : Int).toNat.toUInt8) ∧ D = []) := by
  refine CallsS.enter hU Try.f70 _ [.tmp 4] 8 Try.func70 rfl (by decide) rfl rfl (by kernel_rfl) fun w0 W => ?_
  refine RunC.seq ?_
  refine RunC.region ?_
  refine RunR.sil hU [] 1 1 [0, 1, 4] [(0, .string s), (1, .int .u8 x), (4, .int .i64 0)] ((True) ∧ True) rfl (by kernel_rfl) ⟨trivial, trivial⟩ ?_
  refine RunR.done (by kernel_rfl) ?_
  refine kseq_n ?_
  refine RunC.seq ?_
  refine RunC.region ?_
  refine RunR.sil hU [] 2 2 [4, 5, 6] [(4, .int .i64 0), (5, .string s), (6, .int .u8 x)] ((True) ∧ (True) ∧ True) rfl (by kernel_rfl) ⟨trivial, trivial, trivial⟩ ?_
  refine RunR.step (dst := some 7) (op := .call { callee := .value (.func 73), args := #[.tmp 5, .tmp 6], argTypes := #[9, 5] }) (by kernel_rfl) (Step.extern 73 [.string s, .int .u8 x] Try.f73 Extern.BytealgIndexByte.indexByte (.int .i64 (Lib.indexByte (s : ByteArray).data.toList (x : Int).toNat.toUInt8)) (by kernel_rfl) Try.func73 (by kernel_rfl) (by kernel_rfl) (by kernel_rfl) (by kernel_rfl) (fun w => Lib.run_indexByteString _ _ w) (by kernel_rfl) ?_)
  refine RunR.sil hU [] 1 4 [4] [(4, .int .i64 (Lib.indexByte (s : ByteArray).data.toList (x : Int).toNat.toUInt8))] ((True) ∧ True) rfl (by kernel_rfl) ⟨trivial, trivial⟩ ?_
  refine RunR.done (by kernel_rfl) ?_
  refine kseq_n ?_
  refine RunC.ret ?_
  refine kret_r [.int .i64 (Lib.indexByte (s : ByteArray).data.toList (x : Int).toNat.toUInt8)] [] [] ⟨rfl, trivial⟩ (by kernel_rfl) rfl ⟨rfl, rfl⟩

theorem s_IndexByte_spec (s : ByteArray) (x : Int) :
    CallsS Try.prog 56 [.string s, .int .u8 x] [] (fun r D => r = .int .i64 (Lib.indexByte (s : ByteArray).data.toList (x : Int).toNat.toUInt8) ∧ D = []) := by
  refine CallsS.enter hU Try.f56 _ [.tmp 4] 8 Try.func56 rfl (by decide) rfl rfl (by kernel_rfl) fun w0 W => ?_
  refine RunC.seq ?_
  refine RunC.region ?_
  refine RunR.sil hU [] 1 1 [0, 1, 4] [(0, .string s), (1, .int .u8 x), (4, .int .i64 0)] ((True) ∧ True) rfl (by kernel_rfl) ⟨trivial, trivial⟩ ?_
  refine RunR.done (by kernel_rfl) ?_
  refine kseq_n ?_
  refine RunC.seq ?_
  refine RunC.region ?_
  refine RunR.sil hU [] 2 2 [4, 5, 6] [(4, .int .i64 0), (5, .string s), (6, .int .u8 x)] ((True) ∧ (True) ∧ True) rfl (by kernel_rfl) ⟨trivial, trivial, trivial⟩ ?_
  refine RunR.step (dst := some 7) (op := .call { callee := .value (.func 70), args := #[.tmp 5, .tmp 6], argTypes := #[9, 5] }) (by kernel_rfl) (Step.call 70 [.string s, .int .u8 x] (by kernel_rfl) (by kernel_rfl) [] [] [] (sl_IndexByte_spec s x) [] (by kernel_rfl) (Lend.nil _) ?_)
  rintro _ _ ⟨rfl, rfl⟩
  refine RunR.sil hU [] 1 4 [4] [(4, .int .i64 (Lib.indexByte (s : ByteArray).data.toList (x : Int).toNat.toUInt8))] ((True) ∧ True) rfl (by kernel_rfl) ⟨trivial, trivial⟩ ?_
  refine RunR.done (by kernel_rfl) ?_
  refine kseq_n ?_
  refine RunC.ret ?_
  refine kret_r [.int .i64 (Lib.indexByte (s : ByteArray).data.toList (x : Int).toNat.toUInt8)] [] [] ⟨rfl, trivial⟩ (by kernel_rfl) rfl ⟨rfl, rfl⟩

theorem r_digit_spec (x : Int) (h0 : 0 ≤ x) (h1 : x < 256) :
    CallsS Try.prog 57 [.int .u8 x] [] (fun r D => r = .int .i64 (dg x) ∧ D = [] ∧ (0 ≤ dg x ∧ dg x ≤ 99)) := by
  refine CallsS.enter hU Try.f57 _ [.tmp 2] 22 Try.func57 rfl (by decide) rfl rfl (by kernel_rfl) fun w0 W => ?_
  refine RunC.seq ?_
  refine RunC.region ?_
  refine RunR.sil hU [] 1 1 [0, 2] [(0, .int .u8 x), (2, .int .i64 0)] ((True) ∧ True) rfl (by kernel_rfl) ⟨trivial, trivial⟩ ?_
  refine RunR.done (by kernel_rfl) ?_
  refine kseq_n ?_
  refine RunC.seq ?_
  refine RunC.seq ?_
  refine RunC.region ?_
  refine RunR.sil hU [] 3 3 [0, 2, 5] [(0, .int .u8 x), (2, .int .i64 0), (5, .bool (decide (x ≥ 48)))] ((True) ∧ (True) ∧ (True) ∧ True) rfl (by kernel_rfl) ⟨trivial, trivial, trivial, trivial⟩ ?_
  refine RunR.env [0, 2, 5] [(0, .int .u8 x), (2, .int .i64 0), (5, .bool (decide (x ≥ 48)))] (by kernel_rfl) ?_
  by_cases h1 : x ≥ 48
  · skip
    refine RunR.enveq [(0, .int .u8 x), (2, .int .i64 0), (5, .bool true)] (by rw [decide_eq_true h1]; try rfl) ?_
    refine RunR.sil hU [] 3 6 [0, 2, 8] [(0, .int .u8 x), (2, .int .i64 0), (8, .bool (decide (x ≤ 57)))] ((True) ∧ (True) ∧ (True) ∧ True) rfl (by kernel_rfl) ⟨trivial, trivial, trivial, trivial⟩ ?_
    refine RunR.done (by kernel_rfl) ?_
    refine kseq_n ?_
    refine RunC.condp (x ≤ 57) (by kernel_rfl) (fun h2 => ?_) (fun h2 => ?_)
    · skip
      refine RunC.seq ?_
      refine RunC.region ?_
      refine RunR.sil hU [1, 2] 4 4 [0, 2] [(0, .int .u8 x), (2, .int .i64 (x - 48))] ((True) ∧ (0 ≤ (x - 48) ∧ (x - 48) < 256) ∧ (-9223372036854775808 ≤ (x - 48) ∧ (x - 48) < 9223372036854775808) ∧ (True) ∧ True) rfl (by kernel_rfl) ⟨trivial, (by omega), (by omega), trivial, trivial⟩ ?_
      refine RunR.done (by kernel_rfl) ?_
      refine kseq_n ?_
      refine RunC.ret ?_
      refine kseq_r ?_
      refine kret_r [.int .i64 (x - 48)] [] [] ⟨rfl, trivial⟩ (by kernel_rfl) rfl ⟨(by first | rfl | (unfold dg; simp only [retv]; congr 1; split <;> (try split) <;> omega)), (by first | rfl | (unfold dg; simp only [retv]; congr 1; split <;> (try split) <;> omega)), (by have := dg_cases x; omega)⟩
    · skip
      refine RunC.skip ?_
      refine kseq_n ?_
      refine RunC.seq ?_
      refine RunC.seq ?_
      refine RunC.region ?_
      refine RunR.sil hU [] 3 3 [0, 2, 14] [(0, .int .u8 x), (2, .int .i64 0), (14, .bool (decide (x ≥ 97)))] ((True) ∧ (True) ∧ (True) ∧ True) rfl (by kernel_rfl) ⟨trivial, trivial, trivial, trivial⟩ ?_
      refine RunR.env [0, 2, 14] [(0, .int .u8 x), (2, .int .i64 0), (14, .bool (decide (x ≥ 97)))] (by kernel_rfl) ?_
      by_cases h3 : x ≥ 97
      · skip
        refine RunR.enveq [(0, .int .u8 x), (2, .int .i64 0), (14, .bool true)] (by rw [decide_eq_true h3]; try rfl) ?_
        refine RunR.sil hU [] 3 6 [0, 2, 17] [(0, .int .u8 x), (2, .int .i64 0), (17, .bool (decide (x ≤ 102)))] ((True) ∧ (True) ∧ (True) ∧ True) rfl (by kernel_rfl) ⟨trivial, trivial, trivial, trivial⟩ ?_
        refine RunR.done (by kernel_rfl) ?_
        refine kseq_n ?_
        refine RunC.condp (x ≤ 102) (by kernel_rfl) (fun h4 => ?_) (fun h4 => ?_)
        · skip
          refine RunC.seq ?_
          refine RunC.region ?_
          refine RunR.sil hU [1, 2, 3] 5 5 [2] [(2, .int .i64 ((x - 97) + 10))] ((True) ∧ (0 ≤ (x - 97) ∧ (x - 97) < 256) ∧ (-9223372036854775808 ≤ (x - 97) ∧ (x - 97) < 9223372036854775808) ∧ (-9223372036854775808 ≤ ((x - 97) + 10) ∧ ((x - 97) + 10) < 9223372036854775808) ∧ (True) ∧ True) rfl (by kernel_rfl) ⟨trivial, (by omega), (by omega), (by omega), trivial, trivial⟩ ?_
          refine RunR.done (by kernel_rfl) ?_
          refine kseq_n ?_
          refine RunC.ret ?_
          refine kseq_r ?_
          refine kret_r [.int .i64 ((x - 97) + 10)] [] [] ⟨rfl, trivial⟩ (by kernel_rfl) rfl ⟨(by first | rfl | (unfold dg; simp only [retv]; congr 1; split <;> (try split) <;> omega)), (by first | rfl | (unfold dg; simp only [retv]; congr 1; split <;> (try split) <;> omega)), (by have := dg_cases x; omega)⟩
        · skip
          refine RunC.skip ?_
          refine kseq_n ?_
          refine RunC.seq ?_
          refine RunC.region ?_
          refine RunR.sil hU [] 1 1 [2] [(2, .int .i64 99)] ((True) ∧ True) rfl (by kernel_rfl) ⟨trivial, trivial⟩ ?_
          refine RunR.done (by kernel_rfl) ?_
          refine kseq_n ?_
          refine RunC.ret ?_
          refine kret_r [.int .i64 99] [] [] ⟨rfl, trivial⟩ (by kernel_rfl) rfl ⟨(by first | rfl | (unfold dg; simp only [retv]; congr 1; split <;> (try split) <;> omega)), (by first | rfl | (unfold dg; simp only [retv]; congr 1; split <;> (try split) <;> omega)), (by have := dg_cases x; omega)⟩
      · skip
        refine RunR.enveq [(0, .int .u8 x), (2, .int .i64 0), (14, .bool false)] (by rw [decide_eq_false h3]; try rfl) ?_
        refine RunR.sil hU [] 3 6 [0, 2, 17] [(0, .int .u8 x), (2, .int .i64 0), (17, .bool false)] ((True) ∧ True) rfl (by kernel_rfl) ⟨trivial, trivial⟩ ?_
        refine RunR.done (by kernel_rfl) ?_
        refine kseq_n ?_
        refine RunC.cond (b := false) (by kernel_rfl) (fun h => by cases h) (fun _ => ?_)
        refine RunC.skip ?_
        refine kseq_n ?_
        refine RunC.seq ?_
        refine RunC.region ?_
        refine RunR.sil hU [] 1 1 [2] [(2, .int .i64 99)] ((True) ∧ True) rfl (by kernel_rfl) ⟨trivial, trivial⟩ ?_
        refine RunR.done (by kernel_rfl) ?_
        refine kseq_n ?_
        refine RunC.ret ?_
        refine kret_r [.int .i64 99] [] [] ⟨rfl, trivial⟩ (by kernel_rfl) rfl ⟨(by first | rfl | (unfold dg; simp only [retv]; congr 1; split <;> (try split) <;> omega)), (by first | rfl | (unfold dg; simp only [retv]; congr 1; split <;> (try split) <;> omega)), (by have := dg_cases x; omega)⟩
  · skip
    refine RunR.enveq [(0, .int .u8 x), (2, .int .i64 0), (5, .bool false)] (by rw [decide_eq_false h1]; try rfl) ?_
    refine RunR.sil hU [] 3 6 [0, 2, 8] [(0, .int .u8 x), (2, .int .i64 0), (8, .bool false)] ((True) ∧ True) rfl (by kernel_rfl) ⟨trivial, trivial⟩ ?_
    refine RunR.done (by kernel_rfl) ?_
    refine kseq_n ?_
    refine RunC.cond (b := false) (by kernel_rfl) (fun h => by cases h) (fun _ => ?_)
    refine RunC.skip ?_
    refine kseq_n ?_
    refine RunC.seq ?_
    refine RunC.seq ?_
    refine RunC.region ?_
    refine RunR.sil hU [] 3 3 [0, 2, 14] [(0, .int .u8 x), (2, .int .i64 0), (14, .bool (decide (x ≥ 97)))] ((True) ∧ (True) ∧ (True) ∧ True) rfl (by kernel_rfl) ⟨trivial, trivial, trivial, trivial⟩ ?_
    refine RunR.env [0, 2, 14] [(0, .int .u8 x), (2, .int .i64 0), (14, .bool (decide (x ≥ 97)))] (by kernel_rfl) ?_
    by_cases h5 : x ≥ 97
    · skip
      refine RunR.enveq [(0, .int .u8 x), (2, .int .i64 0), (14, .bool true)] (by rw [decide_eq_true h5]; try rfl) ?_
      refine RunR.sil hU [] 3 6 [0, 2, 17] [(0, .int .u8 x), (2, .int .i64 0), (17, .bool (decide (x ≤ 102)))] ((True) ∧ (True) ∧ (True) ∧ True) rfl (by kernel_rfl) ⟨trivial, trivial, trivial, trivial⟩ ?_
      refine RunR.done (by kernel_rfl) ?_
      refine kseq_n ?_
      refine RunC.condp (x ≤ 102) (by kernel_rfl) (fun h6 => ?_) (fun h6 => ?_)
      · skip
        refine RunC.seq ?_
        refine RunC.region ?_
        refine RunR.sil hU [1, 2, 3] 5 5 [2] [(2, .int .i64 ((x - 97) + 10))] ((True) ∧ (0 ≤ (x - 97) ∧ (x - 97) < 256) ∧ (-9223372036854775808 ≤ (x - 97) ∧ (x - 97) < 9223372036854775808) ∧ (-9223372036854775808 ≤ ((x - 97) + 10) ∧ ((x - 97) + 10) < 9223372036854775808) ∧ (True) ∧ True) rfl (by kernel_rfl) ⟨trivial, (by omega), (by omega), (by omega), trivial, trivial⟩ ?_
        refine RunR.done (by kernel_rfl) ?_
        refine kseq_n ?_
        refine RunC.ret ?_
        refine kseq_r ?_
        refine kret_r [.int .i64 ((x - 97) + 10)] [] [] ⟨rfl, trivial⟩ (by kernel_rfl) rfl ⟨(by first | rfl | (unfold dg; simp only [retv]; congr 1; split <;> (try split) <;> omega)), (by first | rfl | (unfold dg; simp only [retv]; congr 1; split <;> (try split) <;> omega)), (by have := dg_cases x; omega)⟩
      · skip
        refine RunC.skip ?_
        refine kseq_n ?_
        refine RunC.seq ?_
        refine RunC.region ?_
        refine RunR.sil hU [] 1 1 [2] [(2, .int .i64 99)] ((True) ∧ True) rfl (by kernel_rfl) ⟨trivial, trivial⟩ ?_
        refine RunR.done (by kernel_rfl) ?_
        refine kseq_n ?_
        refine RunC.ret ?_
        refine kret_r [.int .i64 99] [] [] ⟨rfl, trivial⟩ (by kernel_rfl) rfl ⟨(by first | rfl | (unfold dg; simp only [retv]; congr 1; split <;> (try split) <;> omega)), (by first | rfl | (unfold dg; simp only [retv]; congr 1; split <;> (try split) <;> omega)), (by have := dg_cases x; omega)⟩
    · skip
      refine RunR.enveq [(0, .int .u8 x), (2, .int .i64 0), (14, .bool false)] (by rw [decide_eq_false h5]; try rfl) ?_
      refine RunR.sil hU [] 3 6 [0, 2, 17] [(0, .int .u8 x), (2, .int .i64 0), (17, .bool false)] ((True) ∧ True) rfl (by kernel_rfl) ⟨trivial, trivial⟩ ?_
      refine RunR.done (by kernel_rfl) ?_
      refine kseq_n ?_
      refine RunC.cond (b := false) (by kernel_rfl) (fun h => by cases h) (fun _ => ?_)
      refine RunC.skip ?_
      refine kseq_n ?_
      refine RunC.seq ?_
      refine RunC.region ?_
      refine RunR.sil hU [] 1 1 [2] [(2, .int .i64 99)] ((True) ∧ True) rfl (by kernel_rfl) ⟨trivial, trivial⟩ ?_
      refine RunR.done (by kernel_rfl) ?_
      refine kseq_n ?_
      refine RunC.ret ?_
      refine kret_r [.int .i64 99] [] [] ⟨rfl, trivial⟩ (by kernel_rfl) rfl ⟨(by first | rfl | (unfold dg; simp only [retv]; congr 1; split <;> (try split) <;> omega)), (by first | rfl | (unfold dg; simp only [retv]; congr 1; split <;> (try split) <;> omega)), (by have := dg_cases x; omega)⟩

theorem w_Hex_spec (A : Option Addr) (c : Nat) (xs : List Int) (l_xs : Nat) (hx : In .u8 xs) (hn : xs.length ≤ 70368744175616) (hl_xs : xs.length = l_xs) :
    CallsS Try.prog 16 [.slice A l_xs c] [vw A (nums .u8 xs)] (fun r D => r = .string (strOfNums (hexl xs)) ∧ D = []) := by
  subst hl_xs
  refine CallsS.enter hU Try.f16 _ [.tmp 2] 24 Try.func16 rfl (by decide) rfl rfl (by kernel_rfl) fun w0 W => ?_
  refine RunC.know (p := 0 < xs.length → Option.isSome A = true) (fun w hs => vw_some hs 0 rfl (by simp [nums_length])) (fun hA1 => ?_)
  refine RunC.seq ?_
  refine RunC.region ?_
  refine RunR.sil hU [] 1 1 [0, 2] [(0, .slice A xs.length c), (2, .string ⟨#[]⟩)] ((True) ∧ True) rfl (by kernel_rfl) ⟨trivial, trivial⟩ ?_
  refine RunR.done (by kernel_rfl) ?_
  refine kseq_n ?_
  refine RunC.seq ?_
  refine RunC.region ?_
  refine RunR.sil hU [] 1 1 [0, 2, 3] [(0, .slice A xs.length c), (2, .string ⟨#[]⟩), (3, .slice none 0 0)] ((True) ∧ True) rfl (by kernel_rfl) ⟨trivial, trivial⟩ ?_
  refine RunR.done (by kernel_rfl) ?_
  refine kseq_n ?_
  refine RunC.seq ?_
  refine RunC.seq ?_
  refine RunC.region ?_
  refine RunR.sil hU [] 3 3 [2, 3, 6, 7, 8] [(2, .string ⟨#[]⟩), (3, .slice none 0 0), (6, .slice A xs.length c), (7, .int .i64 ((xs.length : Nat) : Int)), (8, .int .i64 0)] ((True) ∧ (True) ∧ (True) ∧ True) rfl (by kernel_rfl) ⟨trivial, trivial, trivial, trivial⟩ ?_
  refine RunR.done (by kernel_rfl) ?_
  refine kseq_n ?_
  refine RunC.block ?_
  refine RunC.turn ([row 5 1 (.slice none 0 0) 0 (nums .u8 ([] : List Int)), vw A (nums .u8 xs)]) (fun w hs => hs.nil_row 5 1) ?_
  refine RunC.env [2, 3, 6, 7, 8] [(2, .string ⟨#[]⟩), (3, .slice none 0 0), (6, .slice A xs.length c), (7, .int .i64 ((xs.length : Nat) : Int)), (8, .int .i64 0)] (by kernel_rfl) ?_
  refine RunC.only [0, 0] [row 5 1 (.slice none 0 0) 0 (nums .u8 ([] : List Int)), vw A (nums .u8 xs)] (by kernel_rfl) ?_
  refine RunC.loop (σ := Nat) (fun n_ t_ D_ => ∃ (i : Int) (zs : List Int) (A2 : Option Addr) (c2 : Nat), (0 ≤ i) ∧ (i ≤ (xs.length : Int)) ∧ (zs = hexl (xs.take i.toNat)) ∧ (zs.length = 2 * i.toNat) ∧ (In .u8 zs) ∧ (zs.length ≤ c2) ∧ (0 < zs.length → Option.isSome A2 = true) ∧ n_ = ((xs.length - i).toNat : Nat) ∧ t_ = [(2, .string ⟨#[]⟩), (3, .slice A2 zs.length c2), (6, .slice A xs.length c), (7, .int .i64 ((xs.length : Nat) : Int)), (8, .int .i64 i)] ∧ D_ = [row 5 1 (.slice A2 zs.length c2) zs.length (nums .u8 zs), vw A (nums .u8 xs)]) id _ ⟨0, ([] : List Int), none, 0, (by first | assumption | omega | (simp only [List.length_append, List.length_cons, List.length_nil, List.length_set, List.length_replicate, List.length_take, List.length_drop]; omega) | (simp only [fits] at *; omega) | (simp only [List.length_append, List.length_cons, List.length_nil, List.length_set, List.length_replicate, List.length_take, List.length_drop] at *; omega) | (simp; done) | decide), (by first | assumption | omega | (simp only [List.length_append, List.length_cons, List.length_nil, List.length_set, List.length_replicate, List.length_take, List.length_drop]; omega) | (simp only [fits] at *; omega) | (simp only [List.length_append, List.length_cons, List.length_nil, List.length_set, List.length_replicate, List.length_take, List.length_drop] at *; omega) | (simp; done) | decide), (by rfl), (by rfl), (by exact In.nil _), (by exact Nat.le_refl _), (by intro h; simp at h), rfl, rfl, rfl⟩ ?_
  rintro n_ _ _ ⟨i, zs, A2, c2, hi, hin, hz, hzl, hin8, hc, hA, rfl, rfl, rfl⟩
  refine RunC.seq ?_
  refine RunC.region ?_
  refine RunR.sil hU [] 1 1 [2, 3, 6, 7, 8, 9] [(2, .string ⟨#[]⟩), (3, .slice A2 zs.length c2), (6, .slice A xs.length c), (7, .int .i64 ((xs.length : Nat) : Int)), (8, .int .i64 i), (9, .bool (decide (i < ((xs.length : Nat) : Int))))] ((True) ∧ True) rfl (by kernel_rfl) ⟨trivial, trivial⟩ ?_
  refine RunR.done (by kernel_rfl) ?_
  refine kseq_n ?_
  refine RunC.seq ?_
  refine RunC.condp (i < ((xs.length : Nat) : Int)) (by kernel_rfl) (fun h2 => ?_) (fun h2 => ?_)
  · skip
    refine RunC.skip ?_
    refine kseq_n ?_
    refine RunC.seq ?_
    refine RunC.block ?_
    refine RunC.seq ?_
    refine RunC.region ?_
    refine RunR.sil hU [] 1 1 [2, 3, 6, 7, 8, 10] [(2, .string ⟨#[]⟩), (3, .slice A2 zs.length c2), (6, .slice A xs.length c), (7, .int .i64 ((xs.length : Nat) : Int)), (8, .int .i64 i), (10, .pointer (elemAt A i 1))] (((0 ≤ i ∧ i < ((xs.length : Nat) : Int)) ∧ Option.isSome A = true) ∧ True) rfl (by kernel_rfl) ⟨⟨by omega, hA1 (by omega)⟩, trivial⟩ ?_
    refine RunR.step (dst := some 11) (op := .load 5 (.tmp 10)) (by kernel_rfl) (Step.load_num hU 1 (vw A (nums .u8 xs)) A i .u8 xs rfl (by kernel_rfl) (by kernel_rfl) (tells_vw _ _) (by kernel_rfl) (by omega) ?_)
    have hb3 : 0 ≤ xs.getD ((i).toNat) 0 ∧ xs.getD ((i).toNat) 0 < 256 := hx.at_ _
    refine RunR.sil hU [] 1 3 [2, 3, 5, 6, 7, 8] [(2, .string ⟨#[]⟩), (3, .slice A2 zs.length c2), (5, .int .u8 (xs.getD (i).toNat 0)), (6, .slice A xs.length c), (7, .int .i64 ((xs.length : Nat) : Int)), (8, .int .i64 i)] ((True) ∧ True) rfl (by kernel_rfl) ⟨trivial, trivial⟩ ?_
    refine RunR.done (by kernel_rfl) ?_
    refine kseq_n ?_
    refine RunC.regionU hU 10 [] [] [9] #[false, false, false, false, false, false, false, false, false, false] (by kernel_rfl) (by kernel_rfl) (by kernel_rfl) ?_
    refine RunU.sil hU false 0 #[true, false, false, false, false, false, false, false, false, false] 12 (.slice A2 zs.length c2) (True) (by kernel_rfl) trivial (by kernel_rfl) (by kernel_rfl) (fun _ _ _ h => h) ?_
    refine RunU.sil hU false 1 #[true, true, false, false, false, false, false, false, false, false] 13 (.int .u8 (xs.getD (i).toNat 0)) (True) (by kernel_rfl) trivial (by kernel_rfl) (by kernel_rfl) (fun _ _ _ h => h) ?_
    refine RunU.sil hU true 2 #[true, true, true, false, false, false, false, false, false, false] 14 (.int .u8 ((xs.getD (i).toNat 0) / 2 ^ 4)) (0 ≤ (4 : Int)) (by kernel_rfl) (by omega) (by kernel_rfl) (by kernel_rfl) (fun _ _ _ h => h) ?_
    have hb4 : 0 ≤ (sb ⟨#[48, 49, 50, 51, 52, 53, 54, 55, 56, 57, 97, 98, 99, 100, 101, 102]⟩).getD ((xs.getD (i).toNat 0) / 2 ^ 4).toNat 0 ∧ (sb ⟨#[48, 49, 50, 51, 52, 53, 54, 55, 56, 57, 97, 98, 99, 100, 101, 102]⟩).getD ((xs.getD (i).toNat 0) / 2 ^ 4).toNat 0 < 256 := (In.sb _).at_ _
    refine RunU.sil hU false 3 #[true, true, true, true, false, false, false, false, false, false] 15 (.int .u8 ((sb ⟨#[48, 49, 50, 51, 52, 53, 54, 55, 56, 57, 97, 98, 99, 100, 101, 102]⟩).getD ((xs.getD (i).toNat 0) / 2 ^ 4).toNat 0)) (0 ≤ ((xs.getD (i).toNat 0) / 2 ^ 4) ∧ ((xs.getD (i).toNat 0) / 2 ^ 4) < (16 : Int)) (by kernel_rfl) (by omega) (by kernel_rfl) (by kernel_rfl) (fun _ _ _ h => h) ?_
    refine RunU.sil hU false 4 #[true, true, true, true, true, false, false, false, false, false] 16 (.int .u8 (xs.getD (i).toNat 0)) (True) (by kernel_rfl) trivial (by kernel_rfl) (by kernel_rfl) (fun _ _ _ h => h) ?_
    have hm5 := and_le .u8 rfl (xs.getD (i).toNat 0) 15 (by decide) (by decide)
    refine RunU.sil hU false 5 #[true, true, true, true, true, true, false, false, false, false] 17 (.int .u8 (bits2 .and .u8 (xs.getD (i).toNat 0) 15)) (True) (by kernel_rfl) trivial (by kernel_rfl) (by kernel_rfl) (fun _ _ _ h => h) ?_
    have hb6 : 0 ≤ (sb ⟨#[48, 49, 50, 51, 52, 53, 54, 55, 56, 57, 97, 98, 99, 100, 101, 102]⟩).getD (bits2 .and .u8 (xs.getD (i).toNat 0) 15).toNat 0 ∧ (sb ⟨#[48, 49, 50, 51, 52, 53, 54, 55, 56, 57, 97, 98, 99, 100, 101, 102]⟩).getD (bits2 .and .u8 (xs.getD (i).toNat 0) 15).toNat 0 < 256 := (In.sb _).at_ _
    refine RunU.sil hU false 6 #[true, true, true, true, true, true, true, false, false, false] 18 (.int .u8 ((sb ⟨#[48, 49, 50, 51, 52, 53, 54, 55, 56, 57, 97, 98, 99, 100, 101, 102]⟩).getD (bits2 .and .u8 (xs.getD (i).toNat 0) 15).toNat 0)) (0 ≤ (bits2 .and .u8 (xs.getD (i).toNat 0) 15) ∧ (bits2 .and .u8 (xs.getD (i).toNat 0) 15) < (16 : Int)) (by kernel_rfl) (by omega) (by kernel_rfl) (by kernel_rfl) (fun _ _ _ h => h) ?_
    refine RunU.one (dst := some 19) (op := .buildSlice 22 2 #[(0, .tmp 15), (1, .tmp 18)]) 7 #[true, true, true, true, true, true, true, true, false, false] [] (by kernel_rfl) (by kernel_rfl) (Step.lit_nums hU 5 1 .u8 (.int .u8 0) ([(sb ⟨#[48, 49, 50, 51, 52, 53, 54, 55, 56, 57, 97, 98, 99, 100, 101, 102]⟩).getD ((xs.getD (i).toNat 0) / 2 ^ 4).toNat 0, (sb ⟨#[48, 49, 50, 51, 52, 53, 54, 55, 56, 57, 97, 98, 99, 100, 101, 102]⟩).getD (bits2 .and .u8 (xs.getD (i).toNat 0) 15).toNat 0] : List Int) rfl rfl (by kernel_rfl) rfl rfl (by kernel_rfl) (fun b7 => ?_))
    refine ⟨.inl (by kernel_rfl), ?_⟩
    have hl12 : (([(sb ⟨#[48, 49, 50, 51, 52, 53, 54, 55, 56, 57, 97, 98, 99, 100, 101, 102]⟩).getD ((xs.getD (i).toNat 0) / 2 ^ 4).toNat 0, (sb ⟨#[48, 49, 50, 51, 52, 53, 54, 55, 56, 57, 97, 98, 99, 100, 101, 102]⟩).getD (bits2 .and .u8 (xs.getD (i).toNat 0) 15).toNat 0] : List Int)).length = 2 := rfl
    refine RunU.one (dst := some 20) (op := .call { callee := .builtin .append, args := #[.tmp 12, .tmp 19], argTypes := #[22, 22] }) 8 #[true, true, true, true, true, true, true, true, true, false] [] (by kernel_rfl) (by kernel_rfl) (Step.append_nums hU 5 1 (.int .u8 0) .u8 1 0 A2 zs.length c2 zs (some ⟨b7, 0, none⟩) 2 2 (row 5 1 (.slice (some ⟨b7, 0, none⟩) 2 2) 2 (nums .u8 ([(sb ⟨#[48, 49, 50, 51, 52, 53, 54, 55, 56, 57, 97, 98, 99, 100, 101, 102]⟩).getD ((xs.getD (i).toNat 0) / 2 ^ 4).toNat 0, (sb ⟨#[48, 49, 50, 51, 52, 53, 54, 55, 56, 57, 97, 98, 99, 100, 101, 102]⟩).getD (bits2 .and .u8 (xs.getD (i).toNat 0) 15).toNat 0] : List Int))) ([(sb ⟨#[48, 49, 50, 51, 52, 53, 54, 55, 56, 57, 97, 98, 99, 100, 101, 102]⟩).getD ((xs.getD (i).toNat 0) / 2 ^ 4).toNat 0, (sb ⟨#[48, 49, 50, 51, 52, 53, 54, 55, 56, 57, 97, 98, 99, 100, 101, 102]⟩).getD (bits2 .and .u8 (xs.getD (i).toNat 0) 15).toNat 0] : List Int) rfl rfl rfl (by kernel_rfl) (by kernel_rfl) (by kernel_rfl) (by kernel_rfl) (tells_row _ _ _ _ _ _) (by first | rfl | omega | (simp; omega)) (by first | rfl | omega | (simp; omega)) (by omega) (by omega) (by kernel_rfl) (fun A8 c9 hc10 hA11 => ?_))
    have hl13 : (zs ++ ([(sb ⟨#[48, 49, 50, 51, 52, 53, 54, 55, 56, 57, 97, 98, 99, 100, 101, 102]⟩).getD ((xs.getD (i).toNat 0) / 2 ^ 4).toNat 0, (sb ⟨#[48, 49, 50, 51, 52, 53, 54, 55, 56, 57, 97, 98, 99, 100, 101, 102]⟩).getD (bits2 .and .u8 (xs.getD (i).toNat 0) 15).toNat 0] : List Int)).length = zs.length + ([(sb ⟨#[48, 49, 50, 51, 52, 53, 54, 55, 56, 57, 97, 98, 99, 100, 101, 102]⟩).getD ((xs.getD (i).toNat 0) / 2 ^ 4).toNat 0, (sb ⟨#[48, 49, 50, 51, 52, 53, 54, 55, 56, 57, 97, 98, 99, 100, 101, 102]⟩).getD (bits2 .and .u8 (xs.getD (i).toNat 0) 15).toNat 0] : List Int).length := List.length_append
    simp only [List.length_cons, List.length_nil] at hl13
    refine ⟨.inl (by kernel_rfl), ?_⟩
    refine RunU.sil hU false 9 #[true, true, true, true, true, true, true, true, true, true] 3 (.slice A8 ((zs ++ ([(sb ⟨#[48, 49, 50, 51, 52, 53, 54, 55, 56, 57, 97, 98, 99, 100, 101, 102]⟩).getD ((xs.getD (i).toNat 0) / 2 ^ 4).toNat 0, (sb ⟨#[48, 49, 50, 51, 52, 53, 54, 55, 56, 57, 97, 98, 99, 100, 101, 102]⟩).getD (bits2 .and .u8 (xs.getD (i).toNat 0) 15).toNat 0] : List Int)).length) c9) (True) (by kernel_rfl) trivial (by kernel_rfl) (by kernel_rfl) (fun _ _ _ h => h) ?_
    refine RunU.env [2, 3, 6, 7, 8] [(2, .string ⟨#[]⟩), (3, .slice A8 ((zs ++ ([(sb ⟨#[48, 49, 50, 51, 52, 53, 54, 55, 56, 57, 97, 98, 99, 100, 101, 102]⟩).getD ((xs.getD (i).toNat 0) / 2 ^ 4).toNat 0, (sb ⟨#[48, 49, 50, 51, 52, 53, 54, 55, 56, 57, 97, 98, 99, 100, 101, 102]⟩).getD (bits2 .and .u8 (xs.getD (i).toNat 0) 15).toNat 0] : List Int)).length) c9), (6, .slice A xs.length c), (7, .int .i64 ((xs.length : Nat) : Int)), (8, .int .i64 i)] (by kernel_rfl) ?_
    refine RunU.done (by kernel_rfl) ?_
    refine kblock_n ?_
    refine kseq_n ?_
    refine RunC.region ?_
    refine RunR.sil hU [0] 2 2 [2, 3, 6, 7, 8] [(2, .string ⟨#[]⟩), (3, .slice A8 ((zs ++ ([(sb ⟨#[48, 49, 50, 51, 52, 53, 54, 55, 56, 57, 97, 98, 99, 100, 101, 102]⟩).getD ((xs.getD (i).toNat 0) / 2 ^ 4).toNat 0, (sb ⟨#[48, 49, 50, 51, 52, 53, 54, 55, 56, 57, 97, 98, 99, 100, 101, 102]⟩).getD (bits2 .and .u8 (xs.getD (i).toNat 0) 15).toNat 0] : List Int)).length) c9), (6, .slice A xs.length c), (7, .int .i64 ((xs.length : Nat) : Int)), (8, .int .i64 (i + 1))] ((-9223372036854775808 ≤ (i + 1) ∧ (i + 1) < 9223372036854775808) ∧ (True) ∧ True) rfl (by kernel_rfl) ⟨(by omega), trivial, trivial⟩ ?_
    refine RunR.done (by kernel_rfl) ?_
    refine kloop_n _ [2, 3, 6, 7, 8] [0, 1] [(2, .string ⟨#[]⟩), (3, .slice A8 ((zs ++ ([(sb ⟨#[48, 49, 50, 51, 52, 53, 54, 55, 56, 57, 97, 98, 99, 100, 101, 102]⟩).getD ((xs.getD (i).toNat 0) / 2 ^ 4).toNat 0, (sb ⟨#[48, 49, 50, 51, 52, 53, 54, 55, 56, 57, 97, 98, 99, 100, 101, 102]⟩).getD (bits2 .and .u8 (xs.getD (i).toNat 0) 15).toNat 0] : List Int)).length) c9), (6, .slice A xs.length c), (7, .int .i64 ((xs.length : Nat) : Int)), (8, .int .i64 (i + 1))] [row 5 1 (.slice A8 ((zs ++ ([(sb ⟨#[48, 49, 50, 51, 52, 53, 54, 55, 56, 57, 97, 98, 99, 100, 101, 102]⟩).getD ((xs.getD (i).toNat 0) / 2 ^ 4).toNat 0, (sb ⟨#[48, 49, 50, 51, 52, 53, 54, 55, 56, 57, 97, 98, 99, 100, 101, 102]⟩).getD (bits2 .and .u8 (xs.getD (i).toNat 0) 15).toNat 0] : List Int)).length) c9) ((zs ++ ([(sb ⟨#[48, 49, 50, 51, 52, 53, 54, 55, 56, 57, 97, 98, 99, 100, 101, 102]⟩).getD ((xs.getD (i).toNat 0) / 2 ^ 4).toNat 0, (sb ⟨#[48, 49, 50, 51, 52, 53, 54, 55, 56, 57, 97, 98, 99, 100, 101, 102]⟩).getD (bits2 .and .u8 (xs.getD (i).toNat 0) 15).toNat 0] : List Int)).length) (nums .u8 (zs ++ ([(sb ⟨#[48, 49, 50, 51, 52, 53, 54, 55, 56, 57, 97, 98, 99, 100, 101, 102]⟩).getD ((xs.getD (i).toNat 0) / 2 ^ 4).toNat 0, (sb ⟨#[48, 49, 50, 51, 52, 53, 54, 55, 56, 57, 97, 98, 99, 100, 101, 102]⟩).getD (bits2 .and .u8 (xs.getD (i).toNat 0) 15).toNat 0] : List Int))), vw A (nums .u8 xs)] (by kernel_rfl) (by kernel_rfl) ?_ ⟨(i + 1), (zs ++ ([(sb ⟨#[48, 49, 50, 51, 52, 53, 54, 55, 56, 57, 97, 98, 99, 100, 101, 102]⟩).getD ((xs.getD (i).toNat 0) / 2 ^ 4).toNat 0, (sb ⟨#[48, 49, 50, 51, 52, 53, 54, 55, 56, 57, 97, 98, 99, 100, 101, 102]⟩).getD (bits2 .and .u8 (xs.getD (i).toNat 0) 15).toNat 0] : List Int)), A8, c9, (by first | assumption | omega | (simp only [List.length_append, List.length_cons, List.length_nil, List.length_set, List.length_replicate, List.length_take, List.length_drop]; omega) | (simp only [fits] at *; omega) | (simp only [List.length_append, List.length_cons, List.length_nil, List.length_set, List.length_replicate, List.length_take, List.length_drop] at *; omega) | (simp; done) | decide), (by first | assumption | omega | (simp only [List.length_append, List.length_cons, List.length_nil, List.length_set, List.length_replicate, List.length_take, List.length_drop]; omega) | (simp only [fits] at *; omega) | (simp only [List.length_append, List.length_cons, List.length_nil, List.length_set, List.length_replicate, List.length_take, List.length_drop] at *; omega) | (simp; done) | decide), (by rw [hz]; exact hex_step xs i hi (by omega) hx), (by rw [List.length_append]; simp only [List.length_cons, List.length_nil]; omega), (by exact hin8.append (In.cons ((In.sb digits).at_ _) (In.cons ((In.sb digits).at_ _) (In.nil _)))), (by first | assumption | omega | (simp only [List.length_append, List.length_cons, List.length_nil, List.length_set, List.length_replicate, List.length_take, List.length_drop]; omega) | (simp only [fits] at *; omega) | (simp only [List.length_append, List.length_cons, List.length_nil, List.length_set, List.length_replicate, List.length_take, List.length_drop] at *; omega) | (simp; done) | decide), (fun h => hA11 (by first | exact h | (simp at h ⊢; omega))), rfl, (by rfl), (by rfl)⟩
    show ((xs.length - (i + 1)).toNat : Nat) < ((xs.length - i).toNat : Nat)
    omega
  · skip
    refine RunC.exit ?_
    refine kseq_e ?_
    refine kloop_e ?_
    refine kblock_e ?_
    refine kseq_n ?_
    refine RunC.seq ?_
    refine RunC.region ?_
    refine RunR.sil hU [] 1 1 [2, 22] [(2, .string ⟨#[]⟩), (22, .slice A2 zs.length c2)] ((True) ∧ True) rfl (by kernel_rfl) ⟨trivial, trivial⟩ ?_
    refine RunR.step (dst := some 23) (op := .convert 22 9 (.tmp 22)) (by kernel_rfl) (Step.bytes_str hU 5 0 (row 5 1 (.slice A2 zs.length c2) zs.length (nums .u8 zs)) A2 zs.length c2 zs rfl rfl rfl (by kernel_rfl) (by kernel_rfl) (tells_row _ _ _ _ _ _) (by first | rfl | omega | (simp; done)) (by kernel_rfl) ?_)
    refine RunR.sil hU [] 1 3 [2] [(2, .string (strOfNums zs))] ((True) ∧ True) rfl (by kernel_rfl) ⟨trivial, trivial⟩ ?_
    refine RunR.done (by kernel_rfl) ?_
    refine kseq_n ?_
    refine RunC.ret ?_
    refine kret_r [.string (strOfNums zs)] [] [] ⟨rfl, trivial⟩ (by kernel_rfl) rfl ⟨(by first | rfl | (rw [hz, List.take_of_length_le (by omega)]; rfl)), (by first | rfl | (rw [hz, List.take_of_length_le (by omega)]; rfl))⟩

theorem r_Hex_spec (A : Option Addr) (c : Nat) (xs : List Int) (l_xs : Nat) (hx : In .u8 xs) (hn : xs.length ≤ 70368744175616) (hl_xs : xs.length = l_xs) :
    CallsS Try.prog 17 [.slice A l_xs c] [vw A (nums .u8 xs)] (fun r D => r = .string (strOfNums (hexl xs)) ∧ D = []) := by
  subst hl_xs
  refine CallsS.enter hU Try.f17 _ [.tmp 2] 39 Try.func17 rfl (by decide) rfl rfl (by kernel_rfl) fun w0 W => ?_
  refine RunC.know (p := 0 < xs.length → Option.isSome A = true) (fun w hs => vw_some hs 0 rfl (by simp [nums_length])) (fun hA1 => ?_)
  refine RunC.seq ?_
  refine RunC.region ?_
  refine RunR.sil hU [] 1 1 [0, 2] [(0, .slice A xs.length c), (2, .string ⟨#[]⟩)] ((True) ∧ True) rfl (by kernel_rfl) ⟨trivial, trivial⟩ ?_
  refine RunR.done (by kernel_rfl) ?_
  refine kseq_n ?_
  refine RunC.seq ?_
  refine RunC.region ?_
  refine RunR.sil hU [] 1 1 [0, 2, 3] [(0, .slice A xs.length c), (2, .string ⟨#[]⟩), (3, .string ⟨#[]⟩)] ((True) ∧ True) rfl (by kernel_rfl) ⟨trivial, trivial⟩ ?_
  refine RunR.done (by kernel_rfl) ?_
  refine kseq_n ?_
  refine RunC.seq ?_
  refine RunC.seq ?_
  refine RunC.region ?_
  refine RunR.sil hU [] 1 1 [0, 2, 3, 4] [(0, .slice A xs.length c), (2, .string ⟨#[]⟩), (3, .string ⟨#[]⟩), (4, .int .i64 0)] ((True) ∧ True) rfl (by kernel_rfl) ⟨trivial, trivial⟩ ?_
  refine RunR.done (by kernel_rfl) ?_
  refine kseq_n ?_
  refine RunC.block ?_
  refine RunC.env [0, 2, 3, 4] [(0, .slice A xs.length c), (2, .string ⟨#[]⟩), (3, .string ⟨#[]⟩), (4, .int .i64 0)] (by kernel_rfl) ?_
  refine RunC.only [0] [vw A (nums .u8 xs)] (by kernel_rfl) ?_
  refine RunC.loop (σ := Nat) (fun n_ t_ D_ => ∃ (i : Int) (s : ByteArray), (0 ≤ i) ∧ (i ≤ (xs.length : Int)) ∧ (s = strOfNums (hexl (xs.take i.toNat))) ∧ (s.size = 2 * i.toNat) ∧ n_ = ((xs.length - i).toNat : Nat) ∧ t_ = [(0, .slice A xs.length c), (2, .string ⟨#[]⟩), (3, .string s), (4, .int .i64 i)] ∧ D_ = [vw A (nums .u8 xs)]) id _ ⟨0, ⟨#[]⟩, (by first | assumption | omega | (simp only [List.length_append, List.length_cons, List.length_nil, List.length_set, List.length_replicate, List.length_take, List.length_drop]; omega) | (simp only [fits] at *; omega) | (simp only [List.length_append, List.length_cons, List.length_nil, List.length_set, List.length_replicate, List.length_take, List.length_drop] at *; omega) | (simp; done) | decide), (by first | assumption | omega | (simp only [List.length_append, List.length_cons, List.length_nil, List.length_set, List.length_replicate, List.length_take, List.length_drop]; omega) | (simp only [fits] at *; omega) | (simp only [List.length_append, List.length_cons, List.length_nil, List.length_set, List.length_replicate, List.length_take, List.length_drop] at *; omega) | (simp; done) | decide), (by rfl), (by rfl), rfl, rfl, rfl⟩ ?_
  rintro n_ _ _ ⟨i, s, hi, hin, hs, hsl, rfl, rfl, rfl⟩
  refine RunC.seq ?_
  refine RunC.seq ?_
  refine RunC.region ?_
  refine RunR.sil hU [] 4 4 [0, 2, 3, 4, 8] [(0, .slice A xs.length c), (2, .string ⟨#[]⟩), (3, .string s), (4, .int .i64 i), (8, .bool (decide (i < ((xs.length : Nat) : Int))))] ((True) ∧ (True) ∧ (True) ∧ (True) ∧ True) rfl (by kernel_rfl) ⟨trivial, trivial, trivial, trivial, trivial⟩ ?_
  refine RunR.done (by kernel_rfl) ?_
  refine kseq_n ?_
  refine RunC.condp (i < ((xs.length : Nat) : Int)) (by kernel_rfl) (fun h2 => ?_) (fun h2 => ?_)
  · skip
    refine RunC.skip ?_
    refine kseq_n ?_
    refine RunC.seq ?_
    refine RunC.block ?_
    refine RunC.regionU hU 28 [vw A (nums .u8 xs)] [0] [27] #[false, false, false, false, false, false, false, false, false, false, false, false, false, false, false, false, false, false, false, false, false, false, false, false, false, false, false, false] (by kernel_rfl) (by kernel_rfl) (by kernel_rfl) ?_
    refine RunU.sil hU false 0 #[true, false, false, false, false, false, false, false, false, false, false, false, false, false, false, false, false, false, false, false, false, false, false, false, false, false, false, false] 11 (.string s) (True) (by kernel_rfl) trivial (by kernel_rfl) (by kernel_rfl) (fun _ _ _ h => h) ?_
    refine RunU.sil hU false 1 #[true, true, false, false, false, false, false, false, false, false, false, false, false, false, false, false, false, false, false, false, false, false, false, false, false, false, false, false] 12 (.slice A xs.length c) (True) (by kernel_rfl) trivial (by kernel_rfl) (by kernel_rfl) (fun _ _ _ h => h) ?_
    refine RunU.sil hU false 2 #[true, true, true, false, false, false, false, false, false, false, false, false, false, false, false, false, false, false, false, false, false, false, false, false, false, false, false, false] 13 (.int .i64 i) (True) (by kernel_rfl) trivial (by kernel_rfl) (by kernel_rfl) (fun _ _ _ h => h) ?_
    refine RunU.sil hU false 3 #[true, true, true, true, false, false, false, false, false, false, false, false, false, false, false, false, false, false, false, false, false, false, false, false, false, false, false, false] 14 (.pointer (elemAt A i 1)) ((0 ≤ i ∧ i < ((xs.length : Nat) : Int)) ∧ Option.isSome A = true) (by kernel_rfl) ⟨by omega, hA1 (by omega)⟩ (by kernel_rfl) (by kernel_rfl) (fun _ _ _ h => h) ?_
    refine RunU.read 4 #[true, true, true, true, true, false, false, false, false, false, false, false, false, false, false, false, false, false, false, false, false, false, false, false, false, false, false, false] 15 (.load 5 (.tmp 14)) (.int .u8 (xs.getD (i).toNat 0)) [0] (by kernel_rfl) (Reads.load_num hU 0 (vw A (nums .u8 xs)) A i .u8 xs rfl (by kernel_rfl) (by kernel_rfl) (tells_vw _ _) (by omega)) (by kernel_rfl) (by kernel_rfl) (by kernel_rfl) (by kernel_rfl) (fun _ _ _ h => h) ?_
    have hb3 : 0 ≤ xs.getD ((i).toNat) 0 ∧ xs.getD ((i).toNat) 0 < 256 := hx.at_ _
    refine RunU.sil hU true 5 #[true, true, true, true, true, true, false, false, false, false, false, false, false, false, false, false, false, false, false, false, false, false, false, false, false, false, false, false] 16 (.int .u8 ((xs.getD (i).toNat 0) / (16 : Int))) (0 ≤ (xs.getD (i).toNat 0) ∧ 0 < (16 : Int) ∧ 0 ≤ ((xs.getD (i).toNat 0) / (16 : Int)) ∧ ((xs.getD (i).toNat 0) / (16 : Int)) < 256) (by kernel_rfl) (by omega) (by kernel_rfl) (by kernel_rfl) (fun _ _ _ h => h) ?_
    refine RunU.sil hU false 6 #[true, true, true, true, true, true, true, false, false, false, false, false, false, false, false, false, false, false, false, false, false, false, false, false, false, false, false, false] 17 (.slice A xs.length c) (True) (by kernel_rfl) trivial (by kernel_rfl) (by kernel_rfl) (fun _ _ _ h => h) ?_
    refine RunU.sil hU false 7 #[true, true, true, true, true, true, true, true, false, false, false, false, false, false, false, false, false, false, false, false, false, false, false, false, false, false, false, false] 18 (.int .i64 i) (True) (by kernel_rfl) trivial (by kernel_rfl) (by kernel_rfl) (fun _ _ _ h => h) ?_
    refine RunU.sil hU false 8 #[true, true, true, true, true, true, true, true, true, false, false, false, false, false, false, false, false, false, false, false, false, false, false, false, false, false, false, false] 19 (.pointer (elemAt A i 1)) ((0 ≤ i ∧ i < ((xs.length : Nat) : Int)) ∧ Option.isSome A = true) (by kernel_rfl) ⟨by omega, hA1 (by omega)⟩ (by kernel_rfl) (by kernel_rfl) (fun _ _ _ h => h) ?_
    refine RunU.read 9 #[true, true, true, true, true, true, true, true, true, true, false, false, false, false, false, false, false, false, false, false, false, false, false, false, false, false, false, false] 20 (.load 5 (.tmp 19)) (.int .u8 (xs.getD (i).toNat 0)) [0] (by kernel_rfl) (Reads.load_num hU 0 (vw A (nums .u8 xs)) A i .u8 xs rfl (by kernel_rfl) (by kernel_rfl) (tells_vw _ _) (by omega)) (by kernel_rfl) (by kernel_rfl) (by kernel_rfl) (by kernel_rfl) (fun _ _ _ h => h) ?_
    have hb4 : 0 ≤ xs.getD ((i).toNat) 0 ∧ xs.getD ((i).toNat) 0 < 256 := hx.at_ _
    refine RunU.sil hU true 10 #[true, true, true, true, true, true, true, true, true, true, true, false, false, false, false, false, false, false, false, false, false, false, false, false, false, false, false, false] 21 (.int .u8 ((xs.getD (i).toNat 0) / (16 : Int))) (0 ≤ (xs.getD (i).toNat 0) ∧ 0 < (16 : Int) ∧ 0 ≤ ((xs.getD (i).toNat 0) / (16 : Int)) ∧ ((xs.getD (i).toNat 0) / (16 : Int)) < 256) (by kernel_rfl) (by omega) (by kernel_rfl) (by kernel_rfl) (fun _ _ _ h => h) ?_
    refine RunU.sil hU true 11 #[true, true, true, true, true, true, true, true, true, true, true, true, false, false, false, false, false, false, false, false, false, false, false, false, false, false, false, false] 22 (.int .u8 (((xs.getD (i).toNat 0) / (16 : Int)) + 1)) (0 ≤ (((xs.getD (i).toNat 0) / (16 : Int)) + 1) ∧ (((xs.getD (i).toNat 0) / (16 : Int)) + 1) < 256) (by kernel_rfl) (by omega) (by kernel_rfl) (by kernel_rfl) (fun _ _ _ h => h) ?_
    refine RunU.sil hU false 12 #[true, true, true, true, true, true, true, true, true, true, true, true, true, false, false, false, false, false, false, false, false, false, false, false, false, false, false, false] 23 (.string (ByteArray.extract ⟨#[48, 49, 50, 51, 52, 53, 54, 55, 56, 57, 97, 98, 99, 100, 101, 102]⟩ (((xs.getD (i).toNat 0) / (16 : Int)).toNat) ((((xs.getD (i).toNat 0) / (16 : Int)) + 1).toNat))) (0 ≤ ((xs.getD (i).toNat 0) / (16 : Int)) ∧ ((xs.getD (i).toNat 0) / (16 : Int)) ≤ (((xs.getD (i).toNat 0) / (16 : Int)) + 1) ∧ (((xs.getD (i).toNat 0) / (16 : Int)) + 1) ≤ (16 : Int)) (by kernel_rfl) (by omega) (by kernel_rfl) (by kernel_rfl) (fun _ _ _ h => h) ?_
    refine RunU.sil hU false 13 #[true, true, true, true, true, true, true, true, true, true, true, true, true, true, false, false, false, false, false, false, false, false, false, false, false, false, false, false] 24 (.string (s ++ (ByteArray.extract ⟨#[48, 49, 50, 51, 52, 53, 54, 55, 56, 57, 97, 98, 99, 100, 101, 102]⟩ (((xs.getD (i).toNat 0) / (16 : Int)).toNat) ((((xs.getD (i).toNat 0) / (16 : Int)) + 1).toNat)))) ((s : ByteArray).size + (ByteArray.extract ⟨#[48, 49, 50, 51, 52, 53, 54, 55, 56, 57, 97, 98, 99, 100, 101, 102]⟩ (((xs.getD (i).toNat 0) / (16 : Int)).toNat) ((((xs.getD (i).toNat 0) / (16 : Int)) + 1).toNat) : ByteArray).size ≤ 9223372036854775807) (by kernel_rfl) (by simp only [ByteArray.size_append, ByteArray.size_extract]; omega) (by kernel_rfl) (by kernel_rfl) (fun _ _ _ h => h) ?_
    refine RunU.sil hU false 14 #[true, true, true, true, true, true, true, true, true, true, true, true, true, true, true, false, false, false, false, false, false, false, false, false, false, false, false, false] 25 (.slice A xs.length c) (True) (by kernel_rfl) trivial (by kernel_rfl) (by kernel_rfl) (fun _ _ _ h => h) ?_
    refine RunU.sil hU false 15 #[true, true, true, true, true, true, true, true, true, true, true, true, true, true, true, true, false, false, false, false, false, false, false, false, false, false, false, false] 26 (.int .i64 i) (True) (by kernel_rfl) trivial (by kernel_rfl) (by kernel_rfl) (fun _ _ _ h => h) ?_
    refine RunU.sil hU false 16 #[true, true, true, true, true, true, true, true, true, true, true, true, true, true, true, true, true, false, false, false, false, false, false, false, false, false, false, false] 27 (.pointer (elemAt A i 1)) ((0 ≤ i ∧ i < ((xs.length : Nat) : Int)) ∧ Option.isSome A = true) (by kernel_rfl) ⟨by omega, hA1 (by omega)⟩ (by kernel_rfl) (by kernel_rfl) (fun _ _ _ h => h) ?_
    refine RunU.read 17 #[true, true, true, true, true, true, true, true, true, true, true, true, true, true, true, true, true, true, false, false, false, false, false, false, false, false, false, false] 28 (.load 5 (.tmp 27)) (.int .u8 (xs.getD (i).toNat 0)) [0] (by kernel_rfl) (Reads.load_num hU 0 (vw A (nums .u8 xs)) A i .u8 xs rfl (by kernel_rfl) (by kernel_rfl) (tells_vw _ _) (by omega)) (by kernel_rfl) (by kernel_rfl) (by kernel_rfl) (by kernel_rfl) (fun _ _ _ h => h) ?_
    have hb5 : 0 ≤ xs.getD ((i).toNat) 0 ∧ xs.getD ((i).toNat) 0 < 256 := hx.at_ _
    refine RunU.sil hU true 18 #[true, true, true, true, true, true, true, true, true, true, true, true, true, true, true, true, true, true, true, false, false, false, false, false, false, false, false, false] 29 (.int .u8 ((xs.getD (i).toNat 0) % (16 : Int))) (0 ≤ (xs.getD (i).toNat 0) ∧ 0 < (16 : Int)) (by kernel_rfl) (by omega) (by kernel_rfl) (by kernel_rfl) (fun _ _ _ h => h) ?_
    refine RunU.sil hU false 19 #[true, true, true, true, true, true, true, true, true, true, true, true, true, true, true, true, true, true, true, true, false, false, false, false, false, false, false, false] 30 (.slice A xs.length c) (True) (by kernel_rfl) trivial (by kernel_rfl) (by kernel_rfl) (fun _ _ _ h => h) ?_
    refine RunU.sil hU false 20 #[true, true, true, true, true, true, true, true, true, true, true, true, true, true, true, true, true, true, true, true, true, false, false, false, false, false, false, false] 31 (.int .i64 i) (True) (by kernel_rfl) trivial (by kernel_rfl) (by kernel_rfl) (fun _ _ _ h => h) ?_
    refine RunU.sil hU false 21 #[true, true, true, true, true, true, true, true, true, true, true, true, true, true, true, true, true, true, true, true, true, true, false, false, false, false, false, false] 32 (.pointer (elemAt A i 1)) ((0 ≤ i ∧ i < ((xs.length : Nat) : Int)) ∧ Option.isSome A = true) (by kernel_rfl) ⟨by omega, hA1 (by omega)⟩ (by kernel_rfl) (by kernel_rfl) (fun _ _ _ h => h) ?_
    refine RunU.read 22 #[true, true, true, true, true, true, true, true, true, true, true, true, true, true, true, true, true, true, true, true, true, true, true, false, false, false, false, false] 33 (.load 5 (.tmp 32)) (.int .u8 (xs.getD (i).toNat 0)) [0] (by kernel_rfl) (Reads.load_num hU 0 (vw A (nums .u8 xs)) A i .u8 xs rfl (by kernel_rfl) (by kernel_rfl) (tells_vw _ _) (by omega)) (by kernel_rfl) (by kernel_rfl) (by kernel_rfl) (by kernel_rfl) (fun _ _ _ h => h) ?_
    have hb6 : 0 ≤ xs.getD ((i).toNat) 0 ∧ xs.getD ((i).toNat) 0 < 256 := hx.at_ _
    refine RunU.sil hU true 23 #[true, true, true, true, true, true, true, true, true, true, true, true, true, true, true, true, true, true, true, true, true, true, true, true, false, false, false, false] 34 (.int .u8 ((xs.getD (i).toNat 0) % (16 : Int))) (0 ≤ (xs.getD (i).toNat 0) ∧ 0 < (16 : Int)) (by kernel_rfl) (by omega) (by kernel_rfl) (by kernel_rfl) (fun _ _ _ h => h) ?_
    refine RunU.sil hU true 24 #[true, true, true, true, true, true, true, true, true, true, true, true, true, true, true, true, true, true, true, true, true, true, true, true, true, false, false, false] 35 (.int .u8 (((xs.getD (i).toNat 0) % (16 : Int)) + 1)) (0 ≤ (((xs.getD (i).toNat 0) % (16 : Int)) + 1) ∧ (((xs.getD (i).toNat 0) % (16 : Int)) + 1) < 256) (by kernel_rfl) (by omega) (by kernel_rfl) (by kernel_rfl) (fun _ _ _ h => h) ?_
    refine RunU.sil hU false 25 #[true, true, true, true, true, true, true, true, true, true, true, true, true, true, true, true, true, true, true, true, true, true, true, true, true, true, false, false] 36 (.string (ByteArray.extract ⟨#[48, 49, 50, 51, 52, 53, 54, 55, 56, 57, 97, 98, 99, 100, 101, 102]⟩ (((xs.getD (i).toNat 0) % (16 : Int)).toNat) ((((xs.getD (i).toNat 0) % (16 : Int)) + 1).toNat))) (0 ≤ ((xs.getD (i).toNat 0) % (16 : Int)) ∧ ((xs.getD (i).toNat 0) % (16 : Int)) ≤ (((xs.getD (i).toNat 0) % (16 : Int)) + 1) ∧ (((xs.getD (i).toNat 0) % (16 : Int)) + 1) ≤ (16 : Int)) (by kernel_rfl) (by omega) (by kernel_rfl) (by kernel_rfl) (fun _ _ _ h => h) ?_
    refine RunU.sil hU false 26 #[true, true, true, true, true, true, true, true, true, true, true, true, true, true, true, true, true, true, true, true, true, true, true, true, true, true, true, false] 37 (.string ((s ++ (ByteArray.extract ⟨#[48, 49, 50, 51, 52, 53, 54, 55, 56, 57, 97, 98, 99, 100, 101, 102]⟩ (((xs.getD (i).toNat 0) / (16 : Int)).toNat) ((((xs.getD (i).toNat 0) / (16 : Int)) + 1).toNat))) ++ (ByteArray.extract ⟨#[48, 49, 50, 51, 52, 53, 54, 55, 56, 57, 97, 98, 99, 100, 101, 102]⟩ (((xs.getD (i).toNat 0) % (16 : Int)).toNat) ((((xs.getD (i).toNat 0) % (16 : Int)) + 1).toNat)))) ((s ++ (ByteArray.extract ⟨#[48, 49, 50, 51, 52, 53, 54, 55, 56, 57, 97, 98, 99, 100, 101, 102]⟩ (((xs.getD (i).toNat 0) / (16 : Int)).toNat) ((((xs.getD (i).toNat 0) / (16 : Int)) + 1).toNat)) : ByteArray).size + (ByteArray.extract ⟨#[48, 49, 50, 51, 52, 53, 54, 55, 56, 57, 97, 98, 99, 100, 101, 102]⟩ (((xs.getD (i).toNat 0) % (16 : Int)).toNat) ((((xs.getD (i).toNat 0) % (16 : Int)) + 1).toNat) : ByteArray).size ≤ 9223372036854775807) (by kernel_rfl) (by simp only [ByteArray.size_append, ByteArray.size_extract]; omega) (by kernel_rfl) (by kernel_rfl) (fun _ _ _ h => h) ?_
    refine RunU.sil hU false 27 #[true, true, true, true, true, true, true, true, true, true, true, true, true, true, true, true, true, true, true, true, true, true, true, true, true, true, true, true] 3 (.string ((s ++ (ByteArray.extract ⟨#[48, 49, 50, 51, 52, 53, 54, 55, 56, 57, 97, 98, 99, 100, 101, 102]⟩ (((xs.getD (i).toNat 0) / (16 : Int)).toNat) ((((xs.getD (i).toNat 0) / (16 : Int)) + 1).toNat))) ++ (ByteArray.extract ⟨#[48, 49, 50, 51, 52, 53, 54, 55, 56, 57, 97, 98, 99, 100, 101, 102]⟩ (((xs.getD (i).toNat 0) % (16 : Int)).toNat) ((((xs.getD (i).toNat 0) % (16 : Int)) + 1).toNat)))) (True) (by kernel_rfl) trivial (by kernel_rfl) (by kernel_rfl) (fun _ _ _ h => h) ?_
    refine RunU.env [0, 2, 3, 4] [(0, .slice A xs.length c), (2, .string ⟨#[]⟩), (3, .string ((s ++ (ByteArray.extract ⟨#[48, 49, 50, 51, 52, 53, 54, 55, 56, 57, 97, 98, 99, 100, 101, 102]⟩ (((xs.getD (i).toNat 0) / (16 : Int)).toNat) ((((xs.getD (i).toNat 0) / (16 : Int)) + 1).toNat))) ++ (ByteArray.extract ⟨#[48, 49, 50, 51, 52, 53, 54, 55, 56, 57, 97, 98, 99, 100, 101, 102]⟩ (((xs.getD (i).toNat 0) % (16 : Int)).toNat) ((((xs.getD (i).toNat 0) % (16 : Int)) + 1).toNat)))), (4, .int .i64 i)] (by kernel_rfl) ?_
    refine RunU.done (by kernel_rfl) ?_
    refine kblock_n ?_
    refine kseq_n ?_
    refine RunC.region ?_
    refine RunR.sil hU [1] 3 3 [0, 2, 3, 4] [(0, .slice A xs.length c), (2, .string ⟨#[]⟩), (3, .string ((s ++ (ByteArray.extract ⟨#[48, 49, 50, 51, 52, 53, 54, 55, 56, 57, 97, 98, 99, 100, 101, 102]⟩ (((xs.getD (i).toNat 0) / (16 : Int)).toNat) ((((xs.getD (i).toNat 0) / (16 : Int)) + 1).toNat))) ++ (ByteArray.extract ⟨#[48, 49, 50, 51, 52, 53, 54, 55, 56, 57, 97, 98, 99, 100, 101, 102]⟩ (((xs.getD (i).toNat 0) % (16 : Int)).toNat) ((((xs.getD (i).toNat 0) % (16 : Int)) + 1).toNat)))), (4, .int .i64 (i + 1))] ((True) ∧ (-9223372036854775808 ≤ (i + 1) ∧ (i + 1) < 9223372036854775808) ∧ (True) ∧ True) rfl (by kernel_rfl) ⟨trivial, (by omega), trivial, trivial⟩ ?_
    refine RunR.done (by kernel_rfl) ?_
    refine kloop_n _ [0, 2, 3, 4] [0] [(0, .slice A xs.length c), (2, .string ⟨#[]⟩), (3, .string ((s ++ (ByteArray.extract ⟨#[48, 49, 50, 51, 52, 53, 54, 55, 56, 57, 97, 98, 99, 100, 101, 102]⟩ (((xs.getD (i).toNat 0) / (16 : Int)).toNat) ((((xs.getD (i).toNat 0) / (16 : Int)) + 1).toNat))) ++ (ByteArray.extract ⟨#[48, 49, 50, 51, 52, 53, 54, 55, 56, 57, 97, 98, 99, 100, 101, 102]⟩ (((xs.getD (i).toNat 0) % (16 : Int)).toNat) ((((xs.getD (i).toNat 0) % (16 : Int)) + 1).toNat)))), (4, .int .i64 (i + 1))] [vw A (nums .u8 xs)] (by kernel_rfl) (by kernel_rfl) ?_ ⟨(i + 1), ((s ++ (ByteArray.extract ⟨#[48, 49, 50, 51, 52, 53, 54, 55, 56, 57, 97, 98, 99, 100, 101, 102]⟩ (((xs.getD (i).toNat 0) / (16 : Int)).toNat) ((((xs.getD (i).toNat 0) / (16 : Int)) + 1).toNat))) ++ (ByteArray.extract ⟨#[48, 49, 50, 51, 52, 53, 54, 55, 56, 57, 97, 98, 99, 100, 101, 102]⟩ (((xs.getD (i).toNat 0) % (16 : Int)).toNat) ((((xs.getD (i).toNat 0) % (16 : Int)) + 1).toNat))), (by first | assumption | omega | (simp only [List.length_append, List.length_cons, List.length_nil, List.length_set, List.length_replicate, List.length_take, List.length_drop]; omega) | (simp only [fits] at *; omega) | (simp only [List.length_append, List.length_cons, List.length_nil, List.length_set, List.length_replicate, List.length_take, List.length_drop] at *; omega) | (simp; done) | decide), (by first | assumption | omega | (simp only [List.length_append, List.length_cons, List.length_nil, List.length_set, List.length_replicate, List.length_take, List.length_drop]; omega) | (simp only [fits] at *; omega) | (simp only [List.length_append, List.length_cons, List.length_nil, List.length_set, List.length_replicate, List.length_take, List.length_drop] at *; omega) | (simp; done) | decide), (by rw [hs]; exact ref_hex_step xs i hi (by omega) hx), (by rw [hs, ref_hex_step xs i hi (by omega) hx, strOfNums_size, hexl_len, List.length_take]; omega), rfl, (by rfl), (by rfl)⟩
    show ((xs.length - (i + 1)).toNat : Nat) < ((xs.length - i).toNat : Nat)
    omega
  · skip
    refine RunC.exit ?_
    refine kseq_e ?_
    refine kloop_e ?_
    refine kblock_e ?_
    refine kseq_n ?_
    refine RunC.seq ?_
    refine RunC.region ?_
    refine RunR.sil hU [] 2 2 [2] [(2, .string s)] ((True) ∧ (True) ∧ True) rfl (by kernel_rfl) ⟨trivial, trivial, trivial⟩ ?_
    refine RunR.done (by kernel_rfl) ?_
    refine kseq_n ?_
    refine RunC.ret ?_
    refine kret_r [.string s] [] [] ⟨rfl, trivial⟩ (by kernel_rfl) rfl ⟨(by first | rfl | (rw [hs, List.take_of_length_le (by omega)]; rfl)), (by first | rfl | (rw [hs, List.take_of_length_le (by omega)]; rfl))⟩

theorem r_Unhex_spec (s : ByteArray) (hn : (s : ByteArray).size ≤ 140737488351232) :
    CallsS Try.prog 15 [.string s] [] (fun r D => ∃ (A : Option Addr) (c : Nat) (zs : List Int) (ok : Bool), r = .tuple #[.slice A zs.length c, .bool ok] ∧ D = [row 5 1 (.slice A zs.length c) zs.length (nums .u8 zs)] ∧ ((if ok = true then some zs else none) = unhexl (sb s)) ∧ (ok = false → zs = []) ∧ (In .u8 zs) ∧ (2 * zs.length ≤ (s : ByteArray).size) ∧ (zs.length ≤ c) ∧ (0 < zs.length → Option.isSome A = true)) := by
  refine CallsS.enter hU Try.f15 _ [.tmp 2, .tmp 3] 43 Try.func15 rfl (by decide) rfl rfl (by kernel_rfl) fun w0 W => ?_
  have hlen := sb_len s
  refine RunC.seq ?_
  refine RunC.region ?_
  refine RunR.sil hU [] 2 2 [0, 2, 3] [(0, .string s), (2, .slice none 0 0), (3, .bool false)] ((True) ∧ (True) ∧ True) rfl (by kernel_rfl) ⟨trivial, trivial, trivial⟩ ?_
  refine RunR.done (by kernel_rfl) ?_
  refine kseq_n ?_
  refine RunC.seq ?_
  refine RunC.region ?_
  refine RunR.sil hU [] 1 1 [0, 2, 3, 4] [(0, .string s), (2, .slice none 0 0), (3, .bool false), (4, .slice none 0 0)] ((True) ∧ True) rfl (by kernel_rfl) ⟨trivial, trivial⟩ ?_
  refine RunR.done (by kernel_rfl) ?_
  refine kseq_n ?_
  refine RunC.seq ?_
  refine RunC.seq ?_
  refine RunC.region ?_
  refine RunR.sil hU [] 1 1 [0, 2, 3, 4, 5] [(0, .string s), (2, .slice none 0 0), (3, .bool false), (4, .slice none 0 0), (5, .int .i64 0)] ((True) ∧ True) rfl (by kernel_rfl) ⟨trivial, trivial⟩ ?_
  refine RunR.done (by kernel_rfl) ?_
  refine kseq_n ?_
  refine RunC.block ?_
  refine RunC.turn ([row 5 1 (.slice none 0 0) 0 (nums .u8 ([] : List Int))]) (fun w hs => hs.nil_row 5 1) ?_
  refine RunC.env [0, 4, 5] [(0, .string s), (4, .slice none 0 0), (5, .int .i64 0)] (by kernel_rfl) ?_
  refine RunC.only [0] [row 5 1 (.slice none 0 0) 0 (nums .u8 ([] : List Int))] (by kernel_rfl) ?_
  refine RunC.loop (σ := Nat) (fun n_ t_ D_ => ∃ (i : Int) (zs : List Int) (A : Option Addr) (c : Nat), (0 ≤ i) ∧ (i % 2 = 0) ∧ (i ≤ (s : ByteArray).size + 1) ∧ (unhexl (sb s) = (unhexl ((sb s).drop i.toNat)).map (zs ++ ·)) ∧ (2 * zs.length = i.toNat) ∧ (In .u8 zs) ∧ (zs.length ≤ c) ∧ (0 < zs.length → Option.isSome A = true) ∧ n_ = (((s : ByteArray).size + 1 - i).toNat : Nat) ∧ t_ = [(0, .string s), (4, .slice A zs.length c), (5, .int .i64 i)] ∧ D_ = [row 5 1 (.slice A zs.length c) zs.length (nums .u8 zs)]) id _ ⟨0, ([] : List Int), none, 0, (by first | assumption | omega | (simp only [List.length_append, List.length_cons, List.length_nil, List.length_set, List.length_replicate, List.length_take, List.length_drop]; omega) | (simp only [fits] at *; omega) | (simp only [List.length_append, List.length_cons, List.length_nil, List.length_set, List.length_replicate, List.length_take, List.length_drop] at *; omega) | (simp; done) | decide), (by first | assumption | omega | (simp only [List.length_append, List.length_cons, List.length_nil, List.length_set, List.length_replicate, List.length_take, List.length_drop]; omega) | (simp only [fits] at *; omega) | (simp only [List.length_append, List.length_cons, List.length_nil, List.length_set, List.length_replicate, List.length_take, List.length_drop] at *; omega) | (simp; done) | decide), (by first | assumption | omega | (simp only [List.length_append, List.length_cons, List.length_nil, List.length_set, List.length_replicate, List.length_take, List.length_drop]; omega) | (simp only [fits] at *; omega) | (simp only [List.length_append, List.length_cons, List.length_nil, List.length_set, List.length_replicate, List.length_take, List.length_drop] at *; omega) | (simp; done) | decide), (by simp), (by rfl), (by exact In.nil _), (by exact Nat.le_refl _), (by intro h; simp at h), rfl, rfl, rfl⟩ ?_
  rintro n_ _ _ ⟨i, zs, A, c, hi, hev, hin, hz, hzl, hin8, hc, hA, rfl, rfl, rfl⟩
  refine RunC.seq ?_
  refine RunC.seq ?_
  refine RunC.region ?_
  refine RunR.sil hU [1] 5 5 [0, 4, 5, 12] [(0, .string s), (4, .slice A zs.length c), (5, .int .i64 i), (12, .bool (decide ((i + 1) < ((s : ByteArray).size : Int))))] ((True) ∧ (-9223372036854775808 ≤ (i + 1) ∧ (i + 1) < 9223372036854775808) ∧ (True) ∧ (True) ∧ (True) ∧ True) rfl (by kernel_rfl) ⟨trivial, (by omega), trivial, trivial, trivial, trivial⟩ ?_
  refine RunR.done (by kernel_rfl) ?_
  refine kseq_n ?_
  refine RunC.condp ((i + 1) < ((s : ByteArray).size : Int)) (by kernel_rfl) (fun h1 => ?_) (fun h1 => ?_)
  · skip
    refine RunC.skip ?_
    refine kseq_n ?_
    refine RunC.seq ?_
    refine RunC.block ?_
    refine RunC.seq ?_
    refine RunC.region ?_
    have hb2 : 0 ≤ (sb s).getD (i).toNat 0 ∧ (sb s).getD (i).toNat 0 < 256 := (In.sb _).at_ _
    refine RunR.sil hU [] 3 3 [0, 4, 5, 17] [(0, .string s), (4, .slice A zs.length c), (5, .int .i64 i), (17, .int .u8 ((sb s).getD (i).toNat 0))] ((True) ∧ (True) ∧ (0 ≤ i ∧ i < (s : ByteArray).size) ∧ True) rfl (by kernel_rfl) ⟨trivial, trivial, (by omega), trivial⟩ ?_
    refine RunR.step (dst := some 18) (op := .call { callee := .value (.func 57), args := #[.tmp 17], argTypes := #[5] }) (by kernel_rfl) (Step.call 57 [.int .u8 ((sb s).getD (i).toNat 0)] (by kernel_rfl) (by kernel_rfl) [] [] [row 5 1 (.slice A zs.length c) zs.length (nums .u8 zs)] (r_digit_spec ((sb s).getD (i).toNat 0) (by first | assumption | omega | (simp only [List.length_append, List.length_cons, List.length_nil, List.length_set, List.length_replicate, List.length_take, List.length_drop]; omega) | (simp only [fits] at *; omega) | (simp only [List.length_append, List.length_cons, List.length_nil, List.length_set, List.length_replicate, List.length_take, List.length_drop] at *; omega) | (simp; done) | decide) (by first | assumption | omega | (simp only [List.length_append, List.length_cons, List.length_nil, List.length_set, List.length_replicate, List.length_take, List.length_drop]; omega) | (simp only [fits] at *; omega) | (simp only [List.length_append, List.length_cons, List.length_nil, List.length_set, List.length_replicate, List.length_take, List.length_drop] at *; omega) | (simp; done) | decide)) [] (by kernel_rfl) (Lend.nil _) ?_)
    rintro _ _ ⟨rfl, rfl, hp3⟩
    refine RunR.sil hU [] 1 5 [0, 4, 5, 6] [(0, .string s), (4, .slice A zs.length c), (5, .int .i64 i), (6, .int .i64 (dg ((sb s).getD (i).toNat 0)))] ((True) ∧ True) rfl (by kernel_rfl) ⟨trivial, trivial⟩ ?_
    refine RunR.done (by kernel_rfl) ?_
    refine kseq_n ?_
    refine RunC.seq ?_
    refine RunC.region ?_
    have hb4 : 0 ≤ (sb s).getD (i + 1).toNat 0 ∧ (sb s).getD (i + 1).toNat 0 < 256 := (In.sb _).at_ _
    refine RunR.sil hU [2] 4 4 [0, 4, 5, 6, 22] [(0, .string s), (4, .slice A zs.length c), (5, .int .i64 i), (6, .int .i64 (dg ((sb s).getD (i).toNat 0))), (22, .int .u8 ((sb s).getD (i + 1).toNat 0))] ((True) ∧ (True) ∧ (-9223372036854775808 ≤ (i + 1) ∧ (i + 1) < 9223372036854775808) ∧ (0 ≤ (i + 1) ∧ (i + 1) < (s : ByteArray).size) ∧ True) rfl (by kernel_rfl) ⟨trivial, trivial, (by omega), (by omega), trivial⟩ ?_
    refine RunR.step (dst := some 23) (op := .call { callee := .value (.func 57), args := #[.tmp 22], argTypes := #[5] }) (by kernel_rfl) (Step.call 57 [.int .u8 ((sb s).getD (i + 1).toNat 0)] (by kernel_rfl) (by kernel_rfl) [] [] [row 5 1 (.slice A zs.length c) zs.length (nums .u8 zs)] (r_digit_spec ((sb s).getD (i + 1).toNat 0) (by first | assumption | omega | (simp only [List.length_append, List.length_cons, List.length_nil, List.length_set, List.length_replicate, List.length_take, List.length_drop]; omega) | (simp only [fits] at *; omega) | (simp only [List.length_append, List.length_cons, List.length_nil, List.length_set, List.length_replicate, List.length_take, List.length_drop] at *; omega) | (simp; done) | decide) (by first | assumption | omega | (simp only [List.length_append, List.length_cons, List.length_nil, List.length_set, List.length_replicate, List.length_take, List.length_drop]; omega) | (simp only [fits] at *; omega) | (simp only [List.length_append, List.length_cons, List.length_nil, List.length_set, List.length_replicate, List.length_take, List.length_drop] at *; omega) | (simp; done) | decide)) [] (by kernel_rfl) (Lend.nil _) ?_)
    rintro _ _ ⟨rfl, rfl, hp5⟩
    refine RunR.sil hU [] 1 6 [0, 4, 5, 6, 7] [(0, .string s), (4, .slice A zs.length c), (5, .int .i64 i), (6, .int .i64 (dg ((sb s).getD (i).toNat 0))), (7, .int .i64 (dg ((sb s).getD (i + 1).toNat 0)))] ((True) ∧ True) rfl (by kernel_rfl) ⟨trivial, trivial⟩ ?_
    refine RunR.done (by kernel_rfl) ?_
    refine kseq_n ?_
    refine RunC.seq ?_
    refine RunC.seq ?_
    refine RunC.region ?_
    refine RunR.sil hU [] 3 3 [0, 4, 5, 6, 7, 26] [(0, .string s), (4, .slice A zs.length c), (5, .int .i64 i), (6, .int .i64 (dg ((sb s).getD (i).toNat 0))), (7, .int .i64 (dg ((sb s).getD (i + 1).toNat 0))), (26, .bool (decide ((dg ((sb s).getD (i).toNat 0)) > 15)))] ((True) ∧ (True) ∧ (True) ∧ True) rfl (by kernel_rfl) ⟨trivial, trivial, trivial, trivial⟩ ?_
    refine RunR.env [0, 4, 5, 6, 7, 26] [(0, .string s), (4, .slice A zs.length c), (5, .int .i64 i), (6, .int .i64 (dg ((sb s).getD (i).toNat 0))), (7, .int .i64 (dg ((sb s).getD (i + 1).toNat 0))), (26, .bool (decide ((dg ((sb s).getD (i).toNat 0)) > 15)))] (by kernel_rfl) ?_
    by_cases h6 : (dg ((sb s).getD (i).toNat 0)) > 15
    · skip
      refine RunR.enveq [(0, .string s), (4, .slice A zs.length c), (5, .int .i64 i), (6, .int .i64 (dg ((sb s).getD (i).toNat 0))), (7, .int .i64 (dg ((sb s).getD (i + 1).toNat 0))), (26, .bool true)] (by rw [decide_eq_true h6]; try rfl) ?_
      refine RunR.sil hU [] 3 6 [0, 4, 5, 6, 7, 29] [(0, .string s), (4, .slice A zs.length c), (5, .int .i64 i), (6, .int .i64 (dg ((sb s).getD (i).toNat 0))), (7, .int .i64 (dg ((sb s).getD (i + 1).toNat 0))), (29, .bool true)] ((True) ∧ True) rfl (by kernel_rfl) ⟨trivial, trivial⟩ ?_
      refine RunR.done (by kernel_rfl) ?_
      refine kseq_n ?_
      refine RunC.cond (b := true) (by kernel_rfl) (fun _ => ?_) (fun h => by cases h)
      refine RunC.seq ?_
      refine RunC.region ?_
      refine RunR.sil hU [] 2 2 [0, 2, 3, 4, 5, 6, 7] [(0, .string s), (2, .slice none 0 0), (3, .bool false), (4, .slice A zs.length c), (5, .int .i64 i), (6, .int .i64 (dg ((sb s).getD (i).toNat 0))), (7, .int .i64 (dg ((sb s).getD (i + 1).toNat 0)))] ((True) ∧ (True) ∧ True) rfl (by kernel_rfl) ⟨trivial, trivial, trivial⟩ ?_
      refine RunR.done (by kernel_rfl) ?_
      refine kseq_n ?_
      refine RunC.ret ?_
      refine kseq_r ?_
      refine kblock_r ?_
      refine kseq_r ?_
      refine kloop_r ?_
      refine kblock_r ?_
      refine kseq_r ?_
      refine kret_rt ([row 5 1 (.slice none 0 0) 0 (nums .u8 ([] : List Int)), row 5 1 (.slice A zs.length c) zs.length (nums .u8 zs)]) (fun w0 W w hs => hs.nil_row 5 1) [.slice none 0 0, .bool false] [0] [row 5 1 (.slice none 0 0) 0 (nums .u8 ([] : List Int))] ⟨rfl, rfl, trivial⟩ (by kernel_rfl) rfl ⟨none, 0, ([] : List Int), false, rfl, rfl, (by rw [unhex_stop (i := i.toNat) (by omega) hz (by first | omega | (simp only [show (i + 1).toNat = i.toNat + 1 by omega] at *; omega))]; rfl), (by intro _; rfl), (by exact In.nil _), (by simp), (by exact Nat.le_refl _), (by intro h; simp at h)⟩
    · skip
      refine RunR.enveq [(0, .string s), (4, .slice A zs.length c), (5, .int .i64 i), (6, .int .i64 (dg ((sb s).getD (i).toNat 0))), (7, .int .i64 (dg ((sb s).getD (i + 1).toNat 0))), (26, .bool false)] (by rw [decide_eq_false h6]; try rfl) ?_
      refine RunR.sil hU [] 3 6 [0, 4, 5, 6, 7, 29] [(0, .string s), (4, .slice A zs.length c), (5, .int .i64 i), (6, .int .i64 (dg ((sb s).getD (i).toNat 0))), (7, .int .i64 (dg ((sb s).getD (i + 1).toNat 0))), (29, .bool (decide ((dg ((sb s).getD (i + 1).toNat 0)) > 15)))] ((True) ∧ (True) ∧ (True) ∧ True) rfl (by kernel_rfl) ⟨trivial, trivial, trivial, trivial⟩ ?_
      refine RunR.done (by kernel_rfl) ?_
      refine kseq_n ?_
      refine RunC.condp ((dg ((sb s).getD (i + 1).toNat 0)) > 15) (by kernel_rfl) (fun h7 => ?_) (fun h7 => ?_)
      · skip
        refine RunC.seq ?_
        refine RunC.region ?_
        refine RunR.sil hU [] 2 2 [0, 2, 3, 4, 5, 6, 7] [(0, .string s), (2, .slice none 0 0), (3, .bool false), (4, .slice A zs.length c), (5, .int .i64 i), (6, .int .i64 (dg ((sb s).getD (i).toNat 0))), (7, .int .i64 (dg ((sb s).getD (i + 1).toNat 0)))] ((True) ∧ (True) ∧ True) rfl (by kernel_rfl) ⟨trivial, trivial, trivial⟩ ?_
        refine RunR.done (by kernel_rfl) ?_
        refine kseq_n ?_
        refine RunC.ret ?_
        refine kseq_r ?_
        refine kblock_r ?_
        refine kseq_r ?_
        refine kloop_r ?_
        refine kblock_r ?_
        refine kseq_r ?_
        refine kret_rt ([row 5 1 (.slice none 0 0) 0 (nums .u8 ([] : List Int)), row 5 1 (.slice A zs.length c) zs.length (nums .u8 zs)]) (fun w0 W w hs => hs.nil_row 5 1) [.slice none 0 0, .bool false] [0] [row 5 1 (.slice none 0 0) 0 (nums .u8 ([] : List Int))] ⟨rfl, rfl, trivial⟩ (by kernel_rfl) rfl ⟨none, 0, ([] : List Int), false, rfl, rfl, (by rw [unhex_stop (i := i.toNat) (by omega) hz (by first | omega | (simp only [show (i + 1).toNat = i.toNat + 1 by omega] at *; omega))]; rfl), (by intro _; rfl), (by exact In.nil _), (by simp), (by exact Nat.le_refl _), (by intro h; simp at h)⟩
      · skip
        refine RunC.skip ?_
        refine kseq_n ?_
        refine RunC.region ?_
        refine RunR.sil hU [2, 4, 5] 6 6 [0, 4, 5, 30, 35] [(0, .string s), (4, .slice A zs.length c), (5, .int .i64 i), (30, .slice A zs.length c), (35, .int .u8 ((16 * (dg ((sb s).getD (i).toNat 0))) + (dg ((sb s).getD (i + 1).toNat 0))))] ((True) ∧ (True) ∧ (-9223372036854775808 ≤ (16 * (dg ((sb s).getD (i).toNat 0))) ∧ (16 * (dg ((sb s).getD (i).toNat 0))) < 9223372036854775808) ∧ (True) ∧ (-9223372036854775808 ≤ ((16 * (dg ((sb s).getD (i).toNat 0))) + (dg ((sb s).getD (i + 1).toNat 0))) ∧ ((16 * (dg ((sb s).getD (i).toNat 0))) + (dg ((sb s).getD (i + 1).toNat 0))) < 9223372036854775808) ∧ (0 ≤ ((16 * (dg ((sb s).getD (i).toNat 0))) + (dg ((sb s).getD (i + 1).toNat 0))) ∧ ((16 * (dg ((sb s).getD (i).toNat 0))) + (dg ((sb s).getD (i + 1).toNat 0))) < 256) ∧ True) rfl (by kernel_rfl) ⟨trivial, trivial, (by omega), trivial, (by omega), (by omega), trivial⟩ ?_
        refine RunR.step (dst := some 36) (op := .buildSlice 22 1 #[(0, .tmp 35)]) (by kernel_rfl) (Step.lit_nums hU 5 1 .u8 (.int .u8 0) ([(16 * (dg ((sb s).getD (i).toNat 0))) + (dg ((sb s).getD (i + 1).toNat 0))] : List Int) rfl rfl (by kernel_rfl) rfl rfl (by kernel_rfl) (fun b8 => ?_))
        have hl13 : (([(16 * (dg ((sb s).getD (i).toNat 0))) + (dg ((sb s).getD (i + 1).toNat 0))] : List Int)).length = 1 := rfl
        refine RunR.step (dst := some 37) (op := .call { callee := .builtin .append, args := #[.tmp 30, .tmp 36], argTypes := #[22, 22] }) (by kernel_rfl) (Step.append_nums hU 5 1 (.int .u8 0) .u8 1 0 A zs.length c zs (some ⟨b8, 0, none⟩) 1 1 (row 5 1 (.slice (some ⟨b8, 0, none⟩) 1 1) 1 (nums .u8 ([(16 * (dg ((sb s).getD (i).toNat 0))) + (dg ((sb s).getD (i + 1).toNat 0))] : List Int))) ([(16 * (dg ((sb s).getD (i).toNat 0))) + (dg ((sb s).getD (i + 1).toNat 0))] : List Int) rfl rfl rfl (by kernel_rfl) (by kernel_rfl) (by kernel_rfl) (by kernel_rfl) (tells_row _ _ _ _ _ _) (by first | rfl | omega | (simp; omega)) (by first | rfl | omega | (simp; omega)) (by omega) (by omega) (by kernel_rfl) (fun A9 c10 hc11 hA12 => ?_))
        have hl14 : (zs ++ ([(16 * (dg ((sb s).getD (i).toNat 0))) + (dg ((sb s).getD (i + 1).toNat 0))] : List Int)).length = zs.length + ([(16 * (dg ((sb s).getD (i).toNat 0))) + (dg ((sb s).getD (i + 1).toNat 0))] : List Int).length := List.length_append
        simp only [List.length_cons, List.length_nil] at hl14
        refine RunR.sil hU [] 1 9 [0, 4, 5] [(0, .string s), (4, .slice A9 ((zs ++ ([(16 * (dg ((sb s).getD (i).toNat 0))) + (dg ((sb s).getD (i + 1).toNat 0))] : List Int)).length) c10), (5, .int .i64 i)] ((True) ∧ True) rfl (by kernel_rfl) ⟨trivial, trivial⟩ ?_
        refine RunR.done (by kernel_rfl) ?_
        refine kblock_n ?_
        refine kseq_n ?_
        refine RunC.region ?_
        refine RunR.sil hU [1] 3 3 [0, 4, 5] [(0, .string s), (4, .slice A9 ((zs ++ ([(16 * (dg ((sb s).getD (i).toNat 0))) + (dg ((sb s).getD (i + 1).toNat 0))] : List Int)).length) c10), (5, .int .i64 (i + 2))] ((True) ∧ (-9223372036854775808 ≤ (i + 2) ∧ (i + 2) < 9223372036854775808) ∧ (True) ∧ True) rfl (by kernel_rfl) ⟨trivial, (by omega), trivial, trivial⟩ ?_
        refine RunR.done (by kernel_rfl) ?_
        refine kloop_n _ [0, 4, 5] [0] [(0, .string s), (4, .slice A9 ((zs ++ ([(16 * (dg ((sb s).getD (i).toNat 0))) + (dg ((sb s).getD (i + 1).toNat 0))] : List Int)).length) c10), (5, .int .i64 (i + 2))] [row 5 1 (.slice A9 ((zs ++ ([(16 * (dg ((sb s).getD (i).toNat 0))) + (dg ((sb s).getD (i + 1).toNat 0))] : List Int)).length) c10) ((zs ++ ([(16 * (dg ((sb s).getD (i).toNat 0))) + (dg ((sb s).getD (i + 1).toNat 0))] : List Int)).length) (nums .u8 (zs ++ ([(16 * (dg ((sb s).getD (i).toNat 0))) + (dg ((sb s).getD (i + 1).toNat 0))] : List Int)))] (by kernel_rfl) (by kernel_rfl) ?_ ⟨(i + 2), (zs ++ ([(16 * (dg ((sb s).getD (i).toNat 0))) + (dg ((sb s).getD (i + 1).toNat 0))] : List Int)), A9, c10, (by first | assumption | omega | (simp only [List.length_append, List.length_cons, List.length_nil, List.length_set, List.length_replicate, List.length_take, List.length_drop]; omega) | (simp only [fits] at *; omega) | (simp only [List.length_append, List.length_cons, List.length_nil, List.length_set, List.length_replicate, List.length_take, List.length_drop] at *; omega) | (simp; done) | decide), (by first | assumption | omega | (simp only [List.length_append, List.length_cons, List.length_nil, List.length_set, List.length_replicate, List.length_take, List.length_drop]; omega) | (simp only [fits] at *; omega) | (simp only [List.length_append, List.length_cons, List.length_nil, List.length_set, List.length_replicate, List.length_take, List.length_drop] at *; omega) | (simp; done) | decide), (by first | assumption | omega | (simp only [List.length_append, List.length_cons, List.length_nil, List.length_set, List.length_replicate, List.length_take, List.length_drop]; omega) | (simp only [fits] at *; omega) | (simp only [List.length_append, List.length_cons, List.length_nil, List.length_set, List.length_replicate, List.length_take, List.length_drop] at *; omega) | (simp; done) | decide), (by rw [show (i + 2).toNat = i.toNat + 2 by omega, show (i + 1).toNat = i.toNat + 1 by omega]; exact unhex_go (by omega) hz (by omega) (by simp only [show (i + 1).toNat = i.toNat + 1 by omega] at *; omega)), (by rw [List.length_append]; simp only [List.length_cons, List.length_nil]; omega), (by exact hin8.append (In.cons (by simp only [fits]; omega) (In.nil _))), (by first | assumption | omega | (simp only [List.length_append, List.length_cons, List.length_nil, List.length_set, List.length_replicate, List.length_take, List.length_drop]; omega) | (simp only [fits] at *; omega) | (simp only [List.length_append, List.length_cons, List.length_nil, List.length_set, List.length_replicate, List.length_take, List.length_drop] at *; omega) | (simp; done) | decide), (fun h => hA12 (by first | exact h | (simp at h ⊢; omega))), rfl, (by rfl), (by rfl)⟩
        show (((s : ByteArray).size + 1 - (i + 2)).toNat : Nat) < (((s : ByteArray).size + 1 - i).toNat : Nat)
        omega
  · skip
    refine RunC.exit ?_
    refine kseq_e ?_
    refine kloop_e ?_
    refine kblock_e ?_
    refine kseq_n ?_
    refine RunC.seq ?_
    refine RunC.seq ?_
    refine RunC.region ?_
    refine RunR.sil hU [2] 4 4 [4, 41] [(4, .slice A zs.length c), (41, .bool (!decide ((((s : ByteArray).size : Int) % (2 : Int)) = 0)))] ((True) ∧ (True) ∧ (0 ≤ ((s : ByteArray).size : Int) ∧ 0 < (2 : Int)) ∧ (True) ∧ True) rfl (by kernel_rfl) ⟨trivial, trivial, (by omega), trivial, trivial⟩ ?_
    refine RunR.done (by kernel_rfl) ?_
    refine kseq_n ?_
    refine RunC.condn ((((s : ByteArray).size : Int) % (2 : Int)) = 0) (by kernel_rfl) (fun h15 => ?_) (fun h15 => ?_)
    · skip
      refine RunC.seq ?_
      refine RunC.region ?_
      refine RunR.sil hU [] 2 2 [2, 3, 4] [(2, .slice none 0 0), (3, .bool false), (4, .slice A zs.length c)] ((True) ∧ (True) ∧ True) rfl (by kernel_rfl) ⟨trivial, trivial, trivial⟩ ?_
      refine RunR.done (by kernel_rfl) ?_
      refine kseq_n ?_
      refine RunC.ret ?_
      refine kseq_r ?_
      refine kret_rt ([row 5 1 (.slice none 0 0) 0 (nums .u8 ([] : List Int)), row 5 1 (.slice A zs.length c) zs.length (nums .u8 zs)]) (fun w0 W w hs => hs.nil_row 5 1) [.slice none 0 0, .bool false] [0] [row 5 1 (.slice none 0 0) 0 (nums .u8 ([] : List Int))] ⟨rfl, rfl, trivial⟩ (by kernel_rfl) rfl ⟨none, 0, ([] : List Int), false, rfl, rfl, (by rw [unhexl_odd (by omega)]; rfl), (by intro _; rfl), (by exact In.nil _), (by simp), (by exact Nat.le_refl _), (by intro h; simp at h)⟩
    · skip
      refine RunC.skip ?_
      refine kseq_n ?_
      refine RunC.seq ?_
      refine RunC.region ?_
      refine RunR.sil hU [] 3 3 [2, 3] [(2, .slice A zs.length c), (3, .bool true)] ((True) ∧ (True) ∧ (True) ∧ True) rfl (by kernel_rfl) ⟨trivial, trivial, trivial, trivial⟩ ?_
      refine RunR.done (by kernel_rfl) ?_
      refine kseq_n ?_
      refine RunC.ret ?_
      refine kret_r [.slice A zs.length c, .bool true] [0] [row 5 1 (.slice A zs.length c) zs.length (nums .u8 zs)] ⟨rfl, rfl, trivial⟩ (by kernel_rfl) rfl ⟨A, c, zs, true, rfl, rfl, (by exact (unhex_end (by omega) hz).symm), (by intro h; cases h), (by exact hin8), (by omega), (by exact hc), (by exact hA)⟩

theorem w_Unhex_spec (s : ByteArray) (hn : (s : ByteArray).size ≤ 140737488351232) :
    CallsS Try.prog 14 [.string s] [] (fun r D => ∃ (A : Option Addr) (c : Nat) (zs : List Int) (ok : Bool), r = .tuple #[.slice A zs.length c, .bool ok] ∧ D = [row 5 1 (.slice A zs.length c) zs.length (nums .u8 zs)] ∧ ((if ok = true then some zs else none) = unhexl (sb s)) ∧ (ok = false → zs = []) ∧ (In .u8 zs) ∧ (2 * zs.length ≤ (s : ByteArray).size) ∧ (zs.length ≤ c) ∧ (0 < zs.length → Option.isSome A = true)) := by
  refine CallsS.enter hU Try.f14 _ [.tmp 2, .tmp 3] 42 Try.func14 rfl (by decide) rfl rfl (by kernel_rfl) fun w0 W => ?_
  have hlen := sb_len s
  refine RunC.seq ?_
  refine RunC.region ?_
  refine RunR.sil hU [] 2 2 [0, 2, 3] [(0, .string s), (2, .slice none 0 0), (3, .bool false)] ((True) ∧ (True) ∧ True) rfl (by kernel_rfl) ⟨trivial, trivial, trivial⟩ ?_
  refine RunR.done (by kernel_rfl) ?_
  refine kseq_n ?_
  refine RunC.seq ?_
  refine RunC.seq ?_
  refine RunC.region ?_
  refine RunR.sil hU [2] 4 4 [0, 2, 3, 11] [(0, .string s), (2, .slice none 0 0), (3, .bool false), (11, .bool (!decide ((((s : ByteArray).size : Int) % (2 : Int)) = 0)))] ((True) ∧ (True) ∧ (0 ≤ ((s : ByteArray).size : Int) ∧ 0 < (2 : Int)) ∧ (True) ∧ True) rfl (by kernel_rfl) ⟨trivial, trivial, (by omega), trivial, trivial⟩ ?_
  refine RunR.done (by kernel_rfl) ?_
  refine kseq_n ?_
  refine RunC.condn ((((s : ByteArray).size : Int) % (2 : Int)) = 0) (by kernel_rfl) (fun h1 => ?_) (fun h1 => ?_)
  · skip
    refine RunC.seq ?_
    refine RunC.region ?_
    refine RunR.sil hU [] 2 2 [0, 2, 3] [(0, .string s), (2, .slice none 0 0), (3, .bool false)] ((True) ∧ (True) ∧ True) rfl (by kernel_rfl) ⟨trivial, trivial, trivial⟩ ?_
    refine RunR.done (by kernel_rfl) ?_
    refine kseq_n ?_
    refine RunC.ret ?_
    refine kseq_r ?_
    refine kret_rt ([row 5 1 (.slice none 0 0) 0 (nums .u8 ([] : List Int))]) (fun w0 W w hs => hs.nil_row 5 1) [.slice none 0 0, .bool false] [0] [row 5 1 (.slice none 0 0) 0 (nums .u8 ([] : List Int))] ⟨rfl, rfl, trivial⟩ (by kernel_rfl) rfl ⟨none, 0, ([] : List Int), false, rfl, rfl, (by rw [unhexl_odd (by omega)]; rfl), (by intro _; rfl), (by exact In.nil _), (by simp), (by exact Nat.le_refl _), (by intro h; simp at h)⟩
  · skip
    refine RunC.skip ?_
    refine kseq_n ?_
    refine RunC.seq ?_
    refine RunC.region ?_
    refine RunR.sil hU [] 1 1 [0, 2, 3, 4] [(0, .string s), (2, .slice none 0 0), (3, .bool false), (4, .slice none 0 0)] ((True) ∧ True) rfl (by kernel_rfl) ⟨trivial, trivial⟩ ?_
    refine RunR.done (by kernel_rfl) ?_
    refine kseq_n ?_
    refine RunC.seq ?_
    refine RunC.seq ?_
    refine RunC.region ?_
    refine RunR.sil hU [] 1 1 [0, 2, 3, 4, 5] [(0, .string s), (2, .slice none 0 0), (3, .bool false), (4, .slice none 0 0), (5, .int .i64 0)] ((True) ∧ True) rfl (by kernel_rfl) ⟨trivial, trivial⟩ ?_
    refine RunR.done (by kernel_rfl) ?_
    refine kseq_n ?_
    refine RunC.block ?_
    refine RunC.turn ([row 5 1 (.slice none 0 0) 0 (nums .u8 ([] : List Int))]) (fun w hs => hs.nil_row 5 1) ?_
    refine RunC.env [0, 4, 5] [(0, .string s), (4, .slice none 0 0), (5, .int .i64 0)] (by kernel_rfl) ?_
    refine RunC.only [0] [row 5 1 (.slice none 0 0) 0 (nums .u8 ([] : List Int))] (by kernel_rfl) ?_
    refine RunC.loop (σ := Nat) (fun n_ t_ D_ => ∃ (i : Int) (zs : List Int) (A : Option Addr) (c : Nat), (0 ≤ i) ∧ (i % 2 = 0) ∧ (i ≤ (s : ByteArray).size + 1) ∧ (unhexl (sb s) = (unhexl ((sb s).drop i.toNat)).map (zs ++ ·)) ∧ (2 * zs.length = i.toNat) ∧ (In .u8 zs) ∧ (zs.length ≤ c) ∧ (0 < zs.length → Option.isSome A = true) ∧ n_ = (((s : ByteArray).size + 1 - i).toNat : Nat) ∧ t_ = [(0, .string s), (4, .slice A zs.length c), (5, .int .i64 i)] ∧ D_ = [row 5 1 (.slice A zs.length c) zs.length (nums .u8 zs)]) id _ ⟨0, ([] : List Int), none, 0, (by first | assumption | omega | (simp only [List.length_append, List.length_cons, List.length_nil, List.length_set, List.length_replicate, List.length_take, List.length_drop]; omega) | (simp only [fits] at *; omega) | (simp only [List.length_append, List.length_cons, List.length_nil, List.length_set, List.length_replicate, List.length_take, List.length_drop] at *; omega) | (simp; done) | decide), (by first | assumption | omega | (simp only [List.length_append, List.length_cons, List.length_nil, List.length_set, List.length_replicate, List.length_take, List.length_drop]; omega) | (simp only [fits] at *; omega) | (simp only [List.length_append, List.length_cons, List.length_nil, List.length_set, List.length_replicate, List.length_take, List.length_drop] at *; omega) | (simp; done) | decide), (by first | assumption | omega | (simp only [List.length_append, List.length_cons, List.length_nil, List.length_set, List.length_replicate, List.length_take, List.length_drop]; omega) | (simp only [fits] at *; omega) | (simp only [List.length_append, List.length_cons, List.length_nil, List.length_set, List.length_replicate, List.length_take, List.length_drop] at *; omega) | (simp; done) | decide), (by simp), (by rfl), (by exact In.nil _), (by exact Nat.le_refl _), (by intro h; simp at h), rfl, rfl, rfl⟩ ?_
    rintro n_ _ _ ⟨i, zs, A, c, hi, hev, hin, hz, hzl, hin8, hc, hA, rfl, rfl, rfl⟩
    refine RunC.seq ?_
    refine RunC.seq ?_
    refine RunC.region ?_
    refine RunR.sil hU [] 4 4 [0, 4, 5, 15] [(0, .string s), (4, .slice A zs.length c), (5, .int .i64 i), (15, .bool (decide (i < ((s : ByteArray).size : Int))))] ((True) ∧ (True) ∧ (True) ∧ (True) ∧ True) rfl (by kernel_rfl) ⟨trivial, trivial, trivial, trivial, trivial⟩ ?_
    refine RunR.done (by kernel_rfl) ?_
    refine kseq_n ?_
    refine RunC.condp (i < ((s : ByteArray).size : Int)) (by kernel_rfl) (fun h2 => ?_) (fun h2 => ?_)
    · skip
      refine RunC.skip ?_
      refine kseq_n ?_
      refine RunC.seq ?_
      refine RunC.block ?_
      refine RunC.seq ?_
      refine RunC.regionU hU 11 [] [] [10] #[false, false, false, false, false, false, false, false, false, false, false] (by kernel_rfl) (by kernel_rfl) (by kernel_rfl) ?_
      refine RunU.sil hU false 0 #[true, false, false, false, false, false, false, false, false, false, false] 18 (.string s) (True) (by kernel_rfl) trivial (by kernel_rfl) (by kernel_rfl) (fun _ _ _ h => h) ?_
      refine RunU.sil hU false 1 #[true, true, false, false, false, false, false, false, false, false, false] 19 (.int .i64 i) (True) (by kernel_rfl) trivial (by kernel_rfl) (by kernel_rfl) (fun _ _ _ h => h) ?_
      have hb3 : 0 ≤ (sb s).getD (i).toNat 0 ∧ (sb s).getD (i).toNat 0 < 256 := (In.sb _).at_ _
      refine RunU.sil hU false 2 #[true, true, true, false, false, false, false, false, false, false, false] 20 (.int .u8 ((sb s).getD (i).toNat 0)) (0 ≤ i ∧ i < (s : ByteArray).size) (by kernel_rfl) (by omega) (by kernel_rfl) (by kernel_rfl) (fun _ _ _ h => h) ?_
      refine RunU.sil hU false 4 #[true, true, true, false, true, false, false, false, false, false, false] 22 (.string s) (True) (by kernel_rfl) trivial (by kernel_rfl) (by kernel_rfl) (fun _ _ _ h => h) ?_
      refine RunU.sil hU false 5 #[true, true, true, false, true, true, false, false, false, false, false] 23 (.int .i64 i) (True) (by kernel_rfl) trivial (by kernel_rfl) (by kernel_rfl) (fun _ _ _ h => h) ?_
      refine RunU.sil hU true 6 #[true, true, true, false, true, true, true, false, false, false, false] 24 (.int .i64 (i + 1)) (-9223372036854775808 ≤ (i + 1) ∧ (i + 1) < 9223372036854775808) (by kernel_rfl) (by omega) (by kernel_rfl) (by kernel_rfl) (fun _ _ _ h => h) ?_
      have hb4 : 0 ≤ (sb s).getD (i + 1).toNat 0 ∧ (sb s).getD (i + 1).toNat 0 < 256 := (In.sb _).at_ _
      refine RunU.sil hU false 7 #[true, true, true, false, true, true, true, true, false, false, false] 25 (.int .u8 ((sb s).getD (i + 1).toNat 0)) (0 ≤ (i + 1) ∧ (i + 1) < (s : ByteArray).size) (by kernel_rfl) (by omega) (by kernel_rfl) (by kernel_rfl) (fun _ _ _ h => h) ?_
      refine RunU.one (dst := some 21) (op := .call { callee := .value (.func 56), args := #[.const (.string ⟨#[48, 49, 50, 51, 52, 53, 54, 55, 56, 57, 97, 98, 99, 100, 101, 102]⟩), .tmp 20], argTypes := #[9, 5] }) 3 #[true, true, true, true, true, true, true, true, false, false, false] [] (by kernel_rfl) (by kernel_rfl) (Step.call 56 [.string ⟨#[48, 49, 50, 51, 52, 53, 54, 55, 56, 57, 97, 98, 99, 100, 101, 102]⟩, .int .u8 ((sb s).getD (i).toNat 0)] (by kernel_rfl) (by kernel_rfl) [] [] [row 5 1 (.slice A zs.length c) zs.length (nums .u8 zs)] (s_IndexByte_spec ⟨#[48, 49, 50, 51, 52, 53, 54, 55, 56, 57, 97, 98, 99, 100, 101, 102]⟩ ((sb s).getD (i).toNat 0)) [] (by kernel_rfl) (Lend.nil _) ?_)
      rintro _ _ ⟨rfl, rfl⟩
      have hq5 : Lib.indexByte (⟨#[48, 49, 50, 51, 52, 53, 54, 55, 56, 57, 97, 98, 99, 100, 101, 102]⟩ : ByteArray).data.toList ((sb s).getD (i).toNat 0 : Int).toNat.toUInt8 ≤ 15 := ix_le _ ((In.sb _).at_ _)
      refine ⟨.inl (by kernel_rfl), ?_⟩
      refine RunU.one (dst := some 26) (op := .call { callee := .value (.func 56), args := #[.const (.string ⟨#[48, 49, 50, 51, 52, 53, 54, 55, 56, 57, 97, 98, 99, 100, 101, 102]⟩), .tmp 25], argTypes := #[9, 5] }) 8 #[true, true, true, true, true, true, true, true, true, false, false] [] (by kernel_rfl) (by kernel_rfl) (Step.call 56 [.string ⟨#[48, 49, 50, 51, 52, 53, 54, 55, 56, 57, 97, 98, 99, 100, 101, 102]⟩, .int .u8 ((sb s).getD (i + 1).toNat 0)] (by kernel_rfl) (by kernel_rfl) [] [] [row 5 1 (.slice A zs.length c) zs.length (nums .u8 zs)] (s_IndexByte_spec ⟨#[48, 49, 50, 51, 52, 53, 54, 55, 56, 57, 97, 98, 99, 100, 101, 102]⟩ ((sb s).getD (i + 1).toNat 0)) [] (by kernel_rfl) (Lend.nil _) ?_)
      rintro _ _ ⟨rfl, rfl⟩
      have hq6 : Lib.indexByte (⟨#[48, 49, 50, 51, 52, 53, 54, 55, 56, 57, 97, 98, 99, 100, 101, 102]⟩ : ByteArray).data.toList ((sb s).getD (i + 1).toNat 0 : Int).toNat.toUInt8 ≤ 15 := ix_le _ ((In.sb _).at_ _)
      refine ⟨.inl (by kernel_rfl), ?_⟩
      refine RunU.sil hU false 9 #[true, true, true, true, true, true, true, true, true, true, false] 6 (.int .i64 (Lib.indexByte (⟨#[48, 49, 50, 51, 52, 53, 54, 55, 56, 57, 97, 98, 99, 100, 101, 102]⟩ : ByteArray).data.toList (((sb s).getD (i).toNat 0) : Int).toNat.toUInt8)) (True) (by kernel_rfl) trivial (by kernel_rfl) (by kernel_rfl) (fun _ _ _ h => h) ?_
      refine RunU.sil hU false 10 #[true, true, true, true, true, true, true, true, true, true, true] 7 (.int .i64 (Lib.indexByte (⟨#[48, 49, 50, 51, 52, 53, 54, 55, 56, 57, 97, 98, 99, 100, 101, 102]⟩ : ByteArray).data.toList (((sb s).getD (i + 1).toNat 0) : Int).toNat.toUInt8)) (True) (by kernel_rfl) trivial (by kernel_rfl) (by kernel_rfl) (fun _ _ _ h => h) ?_
      refine RunU.env [0, 4, 5, 6, 7] [(0, .string s), (4, .slice A zs.length c), (5, .int .i64 i), (6, .int .i64 (Lib.indexByte (⟨#[48, 49, 50, 51, 52, 53, 54, 55, 56, 57, 97, 98, 99, 100, 101, 102]⟩ : ByteArray).data.toList (((sb s).getD (i).toNat 0) : Int).toNat.toUInt8)), (7, .int .i64 (Lib.indexByte (⟨#[48, 49, 50, 51, 52, 53, 54, 55, 56, 57, 97, 98, 99, 100, 101, 102]⟩ : ByteArray).data.toList (((sb s).getD (i + 1).toNat 0) : Int).toNat.toUInt8))] (by kernel_rfl) ?_
      refine RunU.done (by kernel_rfl) ?_
      refine kseq_n ?_
      refine RunC.seq ?_
      refine RunC.seq ?_
      refine RunC.region ?_
      refine RunR.sil hU [] 3 3 [0, 4, 5, 6, 7, 29] [(0, .string s), (4, .slice A zs.length c), (5, .int .i64 i), (6, .int .i64 (Lib.indexByte (⟨#[48, 49, 50, 51, 52, 53, 54, 55, 56, 57, 97, 98, 99, 100, 101, 102]⟩ : ByteArray).data.toList (((sb s).getD (i).toNat 0) : Int).toNat.toUInt8)), (7, .int .i64 (Lib.indexByte (⟨#[48, 49, 50, 51, 52, 53, 54, 55, 56, 57, 97, 98, 99, 100, 101, 102]⟩ : ByteArray).data.toList (((sb s).getD (i + 1).toNat 0) : Int).toNat.toUInt8)), (29, .bool (decide ((Lib.indexByte (⟨#[48, 49, 50, 51, 52, 53, 54, 55, 56, 57, 97, 98, 99, 100, 101, 102]⟩ : ByteArray).data.toList (((sb s).getD (i).toNat 0) : Int).toNat.toUInt8) < 0)))] ((True) ∧ (True) ∧ (True) ∧ True) rfl (by kernel_rfl) ⟨trivial, trivial, trivial, trivial⟩ ?_
      refine RunR.env [0, 4, 5, 6, 7, 29] [(0, .string s), (4, .slice A zs.length c), (5, .int .i64 i), (6, .int .i64 (Lib.indexByte (⟨#[48, 49, 50, 51, 52, 53, 54, 55, 56, 57, 97, 98, 99, 100, 101, 102]⟩ : ByteArray).data.toList (((sb s).getD (i).toNat 0) : Int).toNat.toUInt8)), (7, .int .i64 (Lib.indexByte (⟨#[48, 49, 50, 51, 52, 53, 54, 55, 56, 57, 97, 98, 99, 100, 101, 102]⟩ : ByteArray).data.toList (((sb s).getD (i + 1).toNat 0) : Int).toNat.toUInt8)), (29, .bool (decide ((Lib.indexByte (⟨#[48, 49, 50, 51, 52, 53, 54, 55, 56, 57, 97, 98, 99, 100, 101, 102]⟩ : ByteArray).data.toList (((sb s).getD (i).toNat 0) : Int).toNat.toUInt8) < 0)))] (by kernel_rfl) ?_
      by_cases h7 : (Lib.indexByte (⟨#[48, 49, 50, 51, 52, 53, 54, 55, 56, 57, 97, 98, 99, 100, 101, 102]⟩ : ByteArray).data.toList (((sb s).getD (i).toNat 0) : Int).toNat.toUInt8) < 0
      · skip
        refine RunR.enveq [(0, .string s), (4, .slice A zs.length c), (5, .int .i64 i), (6, .int .i64 (Lib.indexByte (⟨#[48, 49, 50, 51, 52, 53, 54, 55, 56, 57, 97, 98, 99, 100, 101, 102]⟩ : ByteArray).data.toList (((sb s).getD (i).toNat 0) : Int).toNat.toUInt8)), (7, .int .i64 (Lib.indexByte (⟨#[48, 49, 50, 51, 52, 53, 54, 55, 56, 57, 97, 98, 99, 100, 101, 102]⟩ : ByteArray).data.toList (((sb s).getD (i + 1).toNat 0) : Int).toNat.toUInt8)), (29, .bool true)] (by rw [decide_eq_true h7]; try rfl) ?_
        refine RunR.sil hU [] 3 6 [0, 4, 5, 6, 7, 32] [(0, .string s), (4, .slice A zs.length c), (5, .int .i64 i), (6, .int .i64 (Lib.indexByte (⟨#[48, 49, 50, 51, 52, 53, 54, 55, 56, 57, 97, 98, 99, 100, 101, 102]⟩ : ByteArray).data.toList (((sb s).getD (i).toNat 0) : Int).toNat.toUInt8)), (7, .int .i64 (Lib.indexByte (⟨#[48, 49, 50, 51, 52, 53, 54, 55, 56, 57, 97, 98, 99, 100, 101, 102]⟩ : ByteArray).data.toList (((sb s).getD (i + 1).toNat 0) : Int).toNat.toUInt8)), (32, .bool true)] ((True) ∧ True) rfl (by kernel_rfl) ⟨trivial, trivial⟩ ?_
        refine RunR.done (by kernel_rfl) ?_
        refine kseq_n ?_
        refine RunC.cond (b := true) (by kernel_rfl) (fun _ => ?_) (fun h => by cases h)
        refine RunC.seq ?_
        refine RunC.region ?_
        refine RunR.sil hU [] 2 2 [0, 2, 3, 4, 5, 6, 7] [(0, .string s), (2, .slice none 0 0), (3, .bool false), (4, .slice A zs.length c), (5, .int .i64 i), (6, .int .i64 (Lib.indexByte (⟨#[48, 49, 50, 51, 52, 53, 54, 55, 56, 57, 97, 98, 99, 100, 101, 102]⟩ : ByteArray).data.toList (((sb s).getD (i).toNat 0) : Int).toNat.toUInt8)), (7, .int .i64 (Lib.indexByte (⟨#[48, 49, 50, 51, 52, 53, 54, 55, 56, 57, 97, 98, 99, 100, 101, 102]⟩ : ByteArray).data.toList (((sb s).getD (i + 1).toNat 0) : Int).toNat.toUInt8))] ((True) ∧ (True) ∧ True) rfl (by kernel_rfl) ⟨trivial, trivial, trivial⟩ ?_
        refine RunR.done (by kernel_rfl) ?_
        refine kseq_n ?_
        refine RunC.ret ?_
        refine kseq_r ?_
        refine kblock_r ?_
        refine kseq_r ?_
        refine kloop_r ?_
        refine kblock_r ?_
        refine kseq_r ?_
        refine kret_rt ([row 5 1 (.slice none 0 0) 0 (nums .u8 ([] : List Int)), row 5 1 (.slice A zs.length c) zs.length (nums .u8 zs)]) (fun w0 W w hs => hs.nil_row 5 1) [.slice none 0 0, .bool false] [0] [row 5 1 (.slice none 0 0) 0 (nums .u8 ([] : List Int))] ⟨rfl, rfl, trivial⟩ (by kernel_rfl) rfl ⟨none, 0, ([] : List Int), false, rfl, rfl, (by rw [w_unhex_stop hz hi (by omega) (In.sb s) (.inl (by omega))]; rfl), (by intro _; rfl), (by exact In.nil _), (by simp), (by exact Nat.le_refl _), (by intro h; simp at h)⟩
      · skip
        refine RunR.enveq [(0, .string s), (4, .slice A zs.length c), (5, .int .i64 i), (6, .int .i64 (Lib.indexByte (⟨#[48, 49, 50, 51, 52, 53, 54, 55, 56, 57, 97, 98, 99, 100, 101, 102]⟩ : ByteArray).data.toList (((sb s).getD (i).toNat 0) : Int).toNat.toUInt8)), (7, .int .i64 (Lib.indexByte (⟨#[48, 49, 50, 51, 52, 53, 54, 55, 56, 57, 97, 98, 99, 100, 101, 102]⟩ : ByteArray).data.toList (((sb s).getD (i + 1).toNat 0) : Int).toNat.toUInt8)), (29, .bool false)] (by rw [decide_eq_false h7]; try rfl) ?_
        refine RunR.sil hU [] 3 6 [0, 4, 5, 6, 7, 32] [(0, .string s), (4, .slice A zs.length c), (5, .int .i64 i), (6, .int .i64 (Lib.indexByte (⟨#[48, 49, 50, 51, 52, 53, 54, 55, 56, 57, 97, 98, 99, 100, 101, 102]⟩ : ByteArray).data.toList (((sb s).getD (i).toNat 0) : Int).toNat.toUInt8)), (7, .int .i64 (Lib.indexByte (⟨#[48, 49, 50, 51, 52, 53, 54, 55, 56, 57, 97, 98, 99, 100, 101, 102]⟩ : ByteArray).data.toList (((sb s).getD (i + 1).toNat 0) : Int).toNat.toUInt8)), (32, .bool (decide ((Lib.indexByte (⟨#[48, 49, 50, 51, 52, 53, 54, 55, 56, 57, 97, 98, 99, 100, 101, 102]⟩ : ByteArray).data.toList (((sb s).getD (i + 1).toNat 0) : Int).toNat.toUInt8) < 0)))] ((True) ∧ (True) ∧ (True) ∧ True) rfl (by kernel_rfl) ⟨trivial, trivial, trivial, trivial⟩ ?_
        refine RunR.done (by kernel_rfl) ?_
        refine kseq_n ?_
        refine RunC.condp ((Lib.indexByte (⟨#[48, 49, 50, 51, 52, 53, 54, 55, 56, 57, 97, 98, 99, 100, 101, 102]⟩ : ByteArray).data.toList (((sb s).getD (i + 1).toNat 0) : Int).toNat.toUInt8) < 0) (by kernel_rfl) (fun h8 => ?_) (fun h8 => ?_)
        · skip
          refine RunC.seq ?_
          refine RunC.region ?_
          refine RunR.sil hU [] 2 2 [0, 2, 3, 4, 5, 6, 7] [(0, .string s), (2, .slice none 0 0), (3, .bool false), (4, .slice A zs.length c), (5, .int .i64 i), (6, .int .i64 (Lib.indexByte (⟨#[48, 49, 50, 51, 52, 53, 54, 55, 56, 57, 97, 98, 99, 100, 101, 102]⟩ : ByteArray).data.toList (((sb s).getD (i).toNat 0) : Int).toNat.toUInt8)), (7, .int .i64 (Lib.indexByte (⟨#[48, 49, 50, 51, 52, 53, 54, 55, 56, 57, 97, 98, 99, 100, 101, 102]⟩ : ByteArray).data.toList (((sb s).getD (i + 1).toNat 0) : Int).toNat.toUInt8))] ((True) ∧ (True) ∧ True) rfl (by kernel_rfl) ⟨trivial, trivial, trivial⟩ ?_
          refine RunR.done (by kernel_rfl) ?_
          refine kseq_n ?_
          refine RunC.ret ?_
          refine kseq_r ?_
          refine kblock_r ?_
          refine kseq_r ?_
          refine kloop_r ?_
          refine kblock_r ?_
          refine kseq_r ?_
          refine kret_rt ([row 5 1 (.slice none 0 0) 0 (nums .u8 ([] : List Int)), row 5 1 (.slice A zs.length c) zs.length (nums .u8 zs)]) (fun w0 W w hs => hs.nil_row 5 1) [.slice none 0 0, .bool false] [0] [row 5 1 (.slice none 0 0) 0 (nums .u8 ([] : List Int))] ⟨rfl, rfl, trivial⟩ (by kernel_rfl) rfl ⟨none, 0, ([] : List Int), false, rfl, rfl, (by rw [w_unhex_stop hz hi (by omega) (In.sb s) (.inr (by omega))]; rfl), (by intro _; rfl), (by exact In.nil _), (by simp), (by exact Nat.le_refl _), (by intro h; simp at h)⟩
        · skip
          refine RunC.skip ?_
          refine kseq_n ?_
          refine RunC.region ?_
          refine RunR.sil hU [2] 6 6 [0, 4, 5, 33, 38] [(0, .string s), (4, .slice A zs.length c), (5, .int .i64 i), (33, .slice A zs.length c), (38, .int .u8 (IntKind.wrap .u8 (bits2 .or .i64 ((Lib.indexByte (⟨#[48, 49, 50, 51, 52, 53, 54, 55, 56, 57, 97, 98, 99, 100, 101, 102]⟩ : ByteArray).data.toList (((sb s).getD (i).toNat 0) : Int).toNat.toUInt8) * 2 ^ 4) (Lib.indexByte (⟨#[48, 49, 50, 51, 52, 53, 54, 55, 56, 57, 97, 98, 99, 100, 101, 102]⟩ : ByteArray).data.toList (((sb s).getD (i + 1).toNat 0) : Int).toNat.toUInt8))))] ((True) ∧ (True) ∧ (0 ≤ (4 : Int) ∧ -9223372036854775808 ≤ ((Lib.indexByte (⟨#[48, 49, 50, 51, 52, 53, 54, 55, 56, 57, 97, 98, 99, 100, 101, 102]⟩ : ByteArray).data.toList (((sb s).getD (i).toNat 0) : Int).toNat.toUInt8) * 2 ^ 4) ∧ ((Lib.indexByte (⟨#[48, 49, 50, 51, 52, 53, 54, 55, 56, 57, 97, 98, 99, 100, 101, 102]⟩ : ByteArray).data.toList (((sb s).getD (i).toNat 0) : Int).toNat.toUInt8) * 2 ^ 4) < 9223372036854775808) ∧ (True) ∧ (True) ∧ (True) ∧ True) rfl (by kernel_rfl) ⟨trivial, trivial, (by omega), trivial, trivial, trivial, trivial⟩ ?_
          refine RunR.step (dst := some 39) (op := .buildSlice 22 1 #[(0, .tmp 38)]) (by kernel_rfl) (Step.lit_nums hU 5 1 .u8 (.int .u8 0) ([IntKind.wrap .u8 (bits2 .or .i64 ((Lib.indexByte (⟨#[48, 49, 50, 51, 52, 53, 54, 55, 56, 57, 97, 98, 99, 100, 101, 102]⟩ : ByteArray).data.toList (((sb s).getD (i).toNat 0) : Int).toNat.toUInt8) * 2 ^ 4) (Lib.indexByte (⟨#[48, 49, 50, 51, 52, 53, 54, 55, 56, 57, 97, 98, 99, 100, 101, 102]⟩ : ByteArray).data.toList (((sb s).getD (i + 1).toNat 0) : Int).toNat.toUInt8))] : List Int) rfl rfl (by kernel_rfl) rfl rfl (by kernel_rfl) (fun b9 => ?_))
          have hl14 : (([IntKind.wrap .u8 (bits2 .or .i64 ((Lib.indexByte (⟨#[48, 49, 50, 51, 52, 53, 54, 55, 56, 57, 97, 98, 99, 100, 101, 102]⟩ : ByteArray).data.toList (((sb s).getD (i).toNat 0) : Int).toNat.toUInt8) * 2 ^ 4) (Lib.indexByte (⟨#[48, 49, 50, 51, 52, 53, 54, 55, 56, 57, 97, 98, 99, 100, 101, 102]⟩ : ByteArray).data.toList (((sb s).getD (i + 1).toNat 0) : Int).toNat.toUInt8))] : List Int)).length = 1 := rfl
          refine RunR.step (dst := some 40) (op := .call { callee := .builtin .append, args := #[.tmp 33, .tmp 39], argTypes := #[22, 22] }) (by kernel_rfl) (Step.append_nums hU 5 1 (.int .u8 0) .u8 1 0 A zs.length c zs (some ⟨b9, 0, none⟩) 1 1 (row 5 1 (.slice (some ⟨b9, 0, none⟩) 1 1) 1 (nums .u8 ([IntKind.wrap .u8 (bits2 .or .i64 ((Lib.indexByte (⟨#[48, 49, 50, 51, 52, 53, 54, 55, 56, 57, 97, 98, 99, 100, 101, 102]⟩ : ByteArray).data.toList (((sb s).getD (i).toNat 0) : Int).toNat.toUInt8) * 2 ^ 4) (Lib.indexByte (⟨#[48, 49, 50, 51, 52, 53, 54, 55, 56, 57, 97, 98, 99, 100, 101, 102]⟩ : ByteArray).data.toList (((sb s).getD (i + 1).toNat 0) : Int).toNat.toUInt8))] : List Int))) ([IntKind.wrap .u8 (bits2 .or .i64 ((Lib.indexByte (⟨#[48, 49, 50, 51, 52, 53, 54, 55, 56, 57, 97, 98, 99, 100, 101, 102]⟩ : ByteArray).data.toList (((sb s).getD (i).toNat 0) : Int).toNat.toUInt8) * 2 ^ 4) (Lib.indexByte (⟨#[48, 49, 50, 51, 52, 53, 54, 55, 56, 57, 97, 98, 99, 100, 101, 102]⟩ : ByteArray).data.toList (((sb s).getD (i + 1).toNat 0) : Int).toNat.toUInt8))] : List Int) rfl rfl rfl (by kernel_rfl) (by kernel_rfl) (by kernel_rfl) (by kernel_rfl) (tells_row _ _ _ _ _ _) (by first | rfl | omega | (simp; omega)) (by first | rfl | omega | (simp; omega)) (by omega) (by omega) (by kernel_rfl) (fun A10 c11 hc12 hA13 => ?_))
          have hl15 : (zs ++ ([IntKind.wrap .u8 (bits2 .or .i64 ((Lib.indexByte (⟨#[48, 49, 50, 51, 52, 53, 54, 55, 56, 57, 97, 98, 99, 100, 101, 102]⟩ : ByteArray).data.toList (((sb s).getD (i).toNat 0) : Int).toNat.toUInt8) * 2 ^ 4) (Lib.indexByte (⟨#[48, 49, 50, 51, 52, 53, 54, 55, 56, 57, 97, 98, 99, 100, 101, 102]⟩ : ByteArray).data.toList (((sb s).getD (i + 1).toNat 0) : Int).toNat.toUInt8))] : List Int)).length = zs.length + ([IntKind.wrap .u8 (bits2 .or .i64 ((Lib.indexByte (⟨#[48, 49, 50, 51, 52, 53, 54, 55, 56, 57, 97, 98, 99, 100, 101, 102]⟩ : ByteArray).data.toList (((sb s).getD (i).toNat 0) : Int).toNat.toUInt8) * 2 ^ 4) (Lib.indexByte (⟨#[48, 49, 50, 51, 52, 53, 54, 55, 56, 57, 97, 98, 99, 100, 101, 102]⟩ : ByteArray).data.toList (((sb s).getD (i + 1).toNat 0) : Int).toNat.toUInt8))] : List Int).length := List.length_append
          simp only [List.length_cons, List.length_nil] at hl15
          refine RunR.sil hU [] 1 9 [0, 4, 5] [(0, .string s), (4, .slice A10 ((zs ++ ([IntKind.wrap .u8 (bits2 .or .i64 ((Lib.indexByte (⟨#[48, 49, 50, 51, 52, 53, 54, 55, 56, 57, 97, 98, 99, 100, 101, 102]⟩ : ByteArray).data.toList (((sb s).getD (i).toNat 0) : Int).toNat.toUInt8) * 2 ^ 4) (Lib.indexByte (⟨#[48, 49, 50, 51, 52, 53, 54, 55, 56, 57, 97, 98, 99, 100, 101, 102]⟩ : ByteArray).data.toList (((sb s).getD (i + 1).toNat 0) : Int).toNat.toUInt8))] : List Int)).length) c11), (5, .int .i64 i)] ((True) ∧ True) rfl (by kernel_rfl) ⟨trivial, trivial⟩ ?_
          refine RunR.done (by kernel_rfl) ?_
          refine kblock_n ?_
          refine kseq_n ?_
          refine RunC.region ?_
          refine RunR.sil hU [1] 3 3 [0, 4, 5] [(0, .string s), (4, .slice A10 ((zs ++ ([IntKind.wrap .u8 (bits2 .or .i64 ((Lib.indexByte (⟨#[48, 49, 50, 51, 52, 53, 54, 55, 56, 57, 97, 98, 99, 100, 101, 102]⟩ : ByteArray).data.toList (((sb s).getD (i).toNat 0) : Int).toNat.toUInt8) * 2 ^ 4) (Lib.indexByte (⟨#[48, 49, 50, 51, 52, 53, 54, 55, 56, 57, 97, 98, 99, 100, 101, 102]⟩ : ByteArray).data.toList (((sb s).getD (i + 1).toNat 0) : Int).toNat.toUInt8))] : List Int)).length) c11), (5, .int .i64 (i + 2))] ((True) ∧ (-9223372036854775808 ≤ (i + 2) ∧ (i + 2) < 9223372036854775808) ∧ (True) ∧ True) rfl (by kernel_rfl) ⟨trivial, (by omega), trivial, trivial⟩ ?_
          refine RunR.done (by kernel_rfl) ?_
          refine kloop_n _ [0, 4, 5] [0] [(0, .string s), (4, .slice A10 ((zs ++ ([IntKind.wrap .u8 (bits2 .or .i64 ((Lib.indexByte (⟨#[48, 49, 50, 51, 52, 53, 54, 55, 56, 57, 97, 98, 99, 100, 101, 102]⟩ : ByteArray).data.toList (((sb s).getD (i).toNat 0) : Int).toNat.toUInt8) * 2 ^ 4) (Lib.indexByte (⟨#[48, 49, 50, 51, 52, 53, 54, 55, 56, 57, 97, 98, 99, 100, 101, 102]⟩ : ByteArray).data.toList (((sb s).getD (i + 1).toNat 0) : Int).toNat.toUInt8))] : List Int)).length) c11), (5, .int .i64 (i + 2))] [row 5 1 (.slice A10 ((zs ++ ([IntKind.wrap .u8 (bits2 .or .i64 ((Lib.indexByte (⟨#[48, 49, 50, 51, 52, 53, 54, 55, 56, 57, 97, 98, 99, 100, 101, 102]⟩ : ByteArray).data.toList (((sb s).getD (i).toNat 0) : Int).toNat.toUInt8) * 2 ^ 4) (Lib.indexByte (⟨#[48, 49, 50, 51, 52, 53, 54, 55, 56, 57, 97, 98, 99, 100, 101, 102]⟩ : ByteArray).data.toList (((sb s).getD (i + 1).toNat 0) : Int).toNat.toUInt8))] : List Int)).length) c11) ((zs ++ ([IntKind.wrap .u8 (bits2 .or .i64 ((Lib.indexByte (⟨#[48, 49, 50, 51, 52, 53, 54, 55, 56, 57, 97, 98, 99, 100, 101, 102]⟩ : ByteArray).data.toList (((sb s).getD (i).toNat 0) : Int).toNat.toUInt8) * 2 ^ 4) (Lib.indexByte (⟨#[48, 49, 50, 51, 52, 53, 54, 55, 56, 57, 97, 98, 99, 100, 101, 102]⟩ : ByteArray).data.toList (((sb s).getD (i + 1).toNat 0) : Int).toNat.toUInt8))] : List Int)).length) (nums .u8 (zs ++ ([IntKind.wrap .u8 (bits2 .or .i64 ((Lib.indexByte (⟨#[48, 49, 50, 51, 52, 53, 54, 55, 56, 57, 97, 98, 99, 100, 101, 102]⟩ : ByteArray).data.toList (((sb s).getD (i).toNat 0) : Int).toNat.toUInt8) * 2 ^ 4) (Lib.indexByte (⟨#[48, 49, 50, 51, 52, 53, 54, 55, 56, 57, 97, 98, 99, 100, 101, 102]⟩ : ByteArray).data.toList (((sb s).getD (i + 1).toNat 0) : Int).toNat.toUInt8))] : List Int)))] (by kernel_rfl) (by kernel_rfl) ?_ ⟨(i + 2), (zs ++ ([IntKind.wrap .u8 (bits2 .or .i64 ((Lib.indexByte (⟨#[48, 49, 50, 51, 52, 53, 54, 55, 56, 57, 97, 98, 99, 100, 101, 102]⟩ : ByteArray).data.toList (((sb s).getD (i).toNat 0) : Int).toNat.toUInt8) * 2 ^ 4) (Lib.indexByte (⟨#[48, 49, 50, 51, 52, 53, 54, 55, 56, 57, 97, 98, 99, 100, 101, 102]⟩ : ByteArray).data.toList (((sb s).getD (i + 1).toNat 0) : Int).toNat.toUInt8))] : List Int)), A10, c11, (by first | assumption | omega | (simp only [List.length_append, List.length_cons, List.length_nil, List.length_set, List.length_replicate, List.length_take, List.length_drop]; omega) | (simp only [fits] at *; omega) | (simp only [List.length_append, List.length_cons, List.length_nil, List.length_set, List.length_replicate, List.length_take, List.length_drop] at *; omega) | (simp; done) | decide), (by first | assumption | omega | (simp only [List.length_append, List.length_cons, List.length_nil, List.length_set, List.length_replicate, List.length_take, List.length_drop]; omega) | (simp only [fits] at *; omega) | (simp only [List.length_append, List.length_cons, List.length_nil, List.length_set, List.length_replicate, List.length_take, List.length_drop] at *; omega) | (simp; done) | decide), (by first | assumption | omega | (simp only [List.length_append, List.length_cons, List.length_nil, List.length_set, List.length_replicate, List.length_take, List.length_drop]; omega) | (simp only [fits] at *; omega) | (simp only [List.length_append, List.length_cons, List.length_nil, List.length_set, List.length_replicate, List.length_take, List.length_drop] at *; omega) | (simp; done) | decide), (by rw [show (i + 2).toNat = i.toNat + 2 by omega]; exact w_unhex_step hz hi (by omega) (In.sb s) (by omega) (by omega)), (by rw [List.length_append]; simp only [List.length_cons, List.length_nil]; omega), (by exact hin8.append (In.cons (fits_wrap_u8 _) (In.nil _))), (by first | assumption | omega | (simp only [List.length_append, List.length_cons, List.length_nil, List.length_set, List.length_replicate, List.length_take, List.length_drop]; omega) | (simp only [fits] at *; omega) | (simp only [List.length_append, List.length_cons, List.length_nil, List.length_set, List.length_replicate, List.length_take, List.length_drop] at *; omega) | (simp; done) | decide), (fun h => hA13 (by first | exact h | (simp at h ⊢; omega))), rfl, (by rfl), (by rfl)⟩
          show (((s : ByteArray).size + 1 - (i + 2)).toNat : Nat) < (((s : ByteArray).size + 1 - i).toNat : Nat)
          omega
    · skip
      refine RunC.exit ?_
      refine kseq_e ?_
      refine kloop_e ?_
      refine kblock_e ?_
      refine kseq_n ?_
      refine RunC.seq ?_
      refine RunC.region ?_
      refine RunR.sil hU [] 3 3 [2, 3] [(2, .slice A zs.length c), (3, .bool true)] ((True) ∧ (True) ∧ (True) ∧ True) rfl (by kernel_rfl) ⟨trivial, trivial, trivial, trivial⟩ ?_
      refine RunR.done (by kernel_rfl) ?_
      refine kseq_n ?_
      refine RunC.ret ?_
      refine kret_r [.slice A zs.length c, .bool true] [0] [row 5 1 (.slice A zs.length c) zs.length (nums .u8 zs)] ⟨rfl, rfl, trivial⟩ (by kernel_rfl) rfl ⟨A, c, zs, true, rfl, rfl, (by exact (unhex_end (by omega) hz).symm), (by intro h; cases h), (by exact hin8), (by omega), (by exact hc), (by exact hA)⟩

theorem w_Wipe_spec (A : Option Addr) (n : Nat) (c : Nat) (xs : List Int) :
    CallsS Try.prog 26 [.slice A n c] [row 5 1 (.slice A n c) n (nums .u8 xs)] (fun r D => r = .tuple #[] ∧ D = [row 5 1 (.slice A n c) n (nums .u8 (List.replicate n (0 : Int)))]) := by
  refine CallsS.enter hU Try.f26 _ [] 3 Try.func26 rfl (by decide) rfl rfl (by kernel_rfl) fun w0 W => ?_
  refine RunC.region ?_
  refine RunR.sil hU [] 1 1 [2] [(2, .slice A n c)] ((True) ∧ True) rfl (by kernel_rfl) ⟨trivial, trivial⟩ ?_
  refine RunR.step (dst := none) (op := .call { callee := .builtin .clear, args := #[.tmp 2], argTypes := #[22] }) (by kernel_rfl) (Step.clear_nums hU 5 1 .u8 0 n c A xs rfl rfl (by kernel_rfl) (by kernel_rfl) (by kernel_rfl) ?_)
  have hl1 : (List.replicate n (0 : Int)).length = n := List.length_replicate
  refine RunR.done (by kernel_rfl) ?_
  refine kret_n [] [0] [row 5 1 (.slice A n c) n (nums .u8 (List.replicate n (0 : Int)))] trivial (by kernel_rfl) rfl ⟨rfl, rfl⟩

theorem l1_awake_spec  :
    CallsS Try.prog 13 [] [] (fun r D => r = .bool true ∧ D = []) := by
  refine CallsS.enter hU Try.f13 _ [.tmp 0] 19 Try.func13 rfl (by decide) rfl rfl (by kernel_rfl) fun w0 W => ?_
  refine RunC.seq ?_
  refine RunC.region ?_
  refine RunR.sil hU [] 1 1 [0] [(0, .bool false)] ((True) ∧ True) rfl (by kernel_rfl) ⟨trivial, trivial⟩ ?_
  refine RunR.done (by kernel_rfl) ?_
  refine kseq_n ?_
  refine RunC.seq ?_
  refine RunC.region ?_
  refine RunR.step (dst := some 4) (op := .call { callee := .value (.func 14), args := #[.const (.string ⟨#[48, 65, 70, 70]⟩)], argTypes := #[9] }) (by kernel_rfl) (Step.call 14 [.string ⟨#[48, 65, 70, 70]⟩] (by kernel_rfl) (by kernel_rfl) [] [] [] (w_Unhex_spec ⟨#[48, 65, 70, 70]⟩ (by first | assumption | omega | (simp only [List.length_append, List.length_cons, List.length_nil, List.length_set, List.length_replicate, List.length_take, List.length_drop]; omega) | (simp only [fits] at *; omega) | (simp only [List.length_append, List.length_cons, List.length_nil, List.length_set, List.length_replicate, List.length_take, List.length_drop] at *; omega) | (simp; done) | decide)) [] (by kernel_rfl) (Lend.nil _) ?_)
  rintro _ _ ⟨A1, c2, zs3, ok4, rfl, rfl, hp5, hp6, hp7, hp8, hp9, hp10⟩
  refine RunR.sil hU [] 5 6 [0, 2] [(0, .bool false), (2, .bool ok4)] ((True) ∧ (True) ∧ (True) ∧ (True) ∧ (True) ∧ True) rfl (by kernel_rfl) ⟨trivial, trivial, trivial, trivial, trivial, trivial⟩ ?_
  refine RunR.env [0, 2] [(0, .bool false), (2, .bool ok4)] (by kernel_rfl) ?_
  have hk11 : ok4 = false := by exact ok_false (l := sb ⟨#[48, 65, 70, 70]⟩) (by assumption) (by decide +kernel)
  refine RunR.enveq [(0, .bool false), (2, .bool false)] (by rw [hk11]; try rfl) ?_
  refine RunR.done (by kernel_rfl) ?_
  refine kseq_n ?_
  refine RunC.seq ?_
  refine RunC.region ?_
  refine RunR.step (dst := some 7) (op := .buildSlice 22 2 #[(0, .const (.int .u8 1)), (1, .const (.int .u8 2))]) (by kernel_rfl) (Step.lit_nums hU 5 1 .u8 (.int .u8 0) ([1, 2] : List Int) rfl rfl (by kernel_rfl) rfl rfl (by kernel_rfl) (fun b12 => ?_))
  refine RunR.step (dst := some 8) (op := .call { callee := .value (.func 22), args := #[.tmp 7], argTypes := #[22] }) (by kernel_rfl) (Step.call 22 [.slice (some ⟨b12, 0, none⟩) 2 2] (by kernel_rfl) (by kernel_rfl) [] [vw (some ⟨b12, 0, none⟩) (nums .u8 ([1, 2] : List Int))] [row 5 1 (.slice (some ⟨b12, 0, none⟩) 2 2) 2 (nums .u8 ([1, 2] : List Int)), row 5 1 (.slice A1 zs3.length c2) zs3.length (nums .u8 zs3)] (w_GetBig32_spec (some ⟨b12, 0, none⟩) 2 ([1, 2] : List Int) 2 (by (repeat first | assumption | (simp only [fits]; omega) | with_reducible first | exact fits_wrap _ _ | exact fits_bits2 _ _ _ _ | exact In.nil _ | exact In.sb _ | exact In.replicate _ _ | apply In.append | apply In.cons | apply In.set | apply In.take | apply In.drop | apply In.rev)) (by first | assumption | omega | (simp only [List.length_append, List.length_cons, List.length_nil, List.length_set, List.length_replicate, List.length_take, List.length_drop]; omega) | (simp only [fits] at *; omega) | (simp only [List.length_append, List.length_cons, List.length_nil, List.length_set, List.length_replicate, List.length_take, List.length_drop] at *; omega) | (simp; done) | decide) (by first | rfl | assumption | omega | (simp only [List.length_append, List.length_cons, List.length_nil, List.length_set, List.length_replicate, List.length_take, List.length_drop]; omega) | (simp; done))) [] (by kernel_rfl) ((Lend.nil _).tells 0 (row 5 1 (.slice (some ⟨b12, 0, none⟩) 2 2) 2 (nums .u8 ([1, 2] : List Int))) (some ⟨b12, 0, none⟩) (nums .u8 ([1, 2] : List Int)) (by kernel_rfl) (tells_row _ _ _ _ _ _)) ?_)
  rintro _ _ ⟨rfl, rfl⟩
  refine RunR.sil hU [] 2 4 [0, 2, 10] [(0, .bool false), (2, .bool false), (10, .bool (decide ((beN ([1, 2] : List Int) 4) = 16908288)))] ((True) ∧ (True) ∧ True) rfl (by kernel_rfl) ⟨trivial, trivial, trivial⟩ ?_
  refine RunR.env [0, 2, 10] [(0, .bool false), (2, .bool false), (10, .bool (decide ((beN ([1, 2] : List Int) 4) = 16908288)))] (by kernel_rfl) ?_
  have hk13 : ((beN ([1, 2] : List Int) 4) = 16908288) := by decide
  refine RunR.enveq [(0, .bool false), (2, .bool false), (10, .bool true)] (by rw [decide_eq_true hk13]; try rfl) ?_
  refine RunR.step (dst := some 11) (op := .buildSlice 22 2 #[(0, .const (.int .u8 10)), (1, .const (.int .u8 255))]) (by kernel_rfl) (Step.lit_nums hU 5 1 .u8 (.int .u8 0) ([10, 255] : List Int) rfl rfl (by kernel_rfl) rfl rfl (by kernel_rfl) (fun b14 => ?_))
  refine RunR.step (dst := some 12) (op := .call { callee := .value (.func 16), args := #[.tmp 11], argTypes := #[22] }) (by kernel_rfl) (Step.call 16 [.slice (some ⟨b14, 0, none⟩) 2 2] (by kernel_rfl) (by kernel_rfl) [] [vw (some ⟨b14, 0, none⟩) (nums .u8 ([10, 255] : List Int))] [row 5 1 (.slice (some ⟨b14, 0, none⟩) 2 2) 2 (nums .u8 ([10, 255] : List Int)), row 5 1 (.slice (some ⟨b12, 0, none⟩) 2 2) 2 (nums .u8 ([1, 2] : List Int)), row 5 1 (.slice A1 zs3.length c2) zs3.length (nums .u8 zs3)] (w_Hex_spec (some ⟨b14, 0, none⟩) 2 ([10, 255] : List Int) 2 (by (repeat first | assumption | (simp only [fits]; omega) | with_reducible first | exact fits_wrap _ _ | exact fits_bits2 _ _ _ _ | exact In.nil _ | exact In.sb _ | exact In.replicate _ _ | apply In.append | apply In.cons | apply In.set | apply In.take | apply In.drop | apply In.rev)) (by first | assumption | omega | (simp only [List.length_append, List.length_cons, List.length_nil, List.length_set, List.length_replicate, List.length_take, List.length_drop]; omega) | (simp only [fits] at *; omega) | (simp only [List.length_append, List.length_cons, List.length_nil, List.length_set, List.length_replicate, List.length_take, List.length_drop] at *; omega) | (simp; done) | decide) (by first | rfl | assumption | omega | (simp only [List.length_append, List.length_cons, List.length_nil, List.length_set, List.length_replicate, List.length_take, List.length_drop]; omega) | (simp; done))) [] (by kernel_rfl) ((Lend.nil _).tells 0 (row 5 1 (.slice (some ⟨b14, 0, none⟩) 2 2) 2 (nums .u8 ([10, 255] : List Int))) (some ⟨b14, 0, none⟩) (nums .u8 ([10, 255] : List Int)) (by kernel_rfl) (tells_row _ _ _ _ _ _)) ?_)
  rintro _ _ ⟨rfl, rfl⟩
  refine RunR.sil hU [] 3 9 [0, 2, 15] [(0, .bool false), (2, .bool false), (15, .bool (decide ((strOfNums (hexl ([10, 255] : List Int))) = ⟨#[48, 97, 102, 102]⟩)))] ((True) ∧ (True) ∧ (True) ∧ True) rfl (by kernel_rfl) ⟨trivial, trivial, trivial, trivial⟩ ?_
  refine RunR.env [0, 2, 15] [(0, .bool false), (2, .bool false), (15, .bool (decide ((strOfNums (hexl ([10, 255] : List Int))) = ⟨#[48, 97, 102, 102]⟩)))] (by kernel_rfl) ?_
  have hk15 : ((strOfNums (hexl ([10, 255] : List Int))) = ⟨#[48, 97, 102, 102]⟩) := by decide +kernel
  refine RunR.enveq [(0, .bool false), (2, .bool false), (15, .bool true)] (by rw [decide_eq_true hk15]; try rfl) ?_
  refine RunR.sil hU [] 4 13 [0] [(0, .bool true)] ((True) ∧ (True) ∧ (True) ∧ (True) ∧ True) rfl (by kernel_rfl) ⟨trivial, trivial, trivial, trivial, trivial⟩ ?_
  refine RunR.done (by kernel_rfl) ?_
  refine kseq_n ?_
  refine RunC.ret ?_
  refine kret_r [.bool true] [] [] ⟨rfl, trivial⟩ (by kernel_rfl) rfl ⟨rfl, rfl⟩
end Go.Proofs.Ytcpohiegijpghaa.W1
