/- What these functions compute: a contract for each, walked through its code. -/
import Derived.Test.YtkehpipialmneaaSLzn
import Derived.Test.YtkehpipialmneaaBPure
import Derived.Test.YtkehpipialmneaaProg
import Derived.Test.YtkehpipialmneaaX1
import Derived.Test.YtkehpipialmneaaX2
import Derived.Test.YtkehpipialmneaaX3
import Derived.Test.YtkehpipialmneaaX4
import Derived.Test.YtkehpipialmneaaX5
import Derived.Test.YtkehpipialmneaaX6
import Derived.Test.YtkehpipialmneaaX7
import Derived.Test.YtkehpipialmneaaX8
import Derived.Test.YtkehpipialmneaaX9
import Derived.Test.YtkehpipialmneaaZ1
import Derived.Test.YtkehpipialmneaaZ2
import Derived.Test.YtkehpipialmneaaS1
import Derived.Test.YtkehpipialmneaaS2
import Derived.Test.YtkehpipialmneaaS3
namespace Go.Proofs.Ytkehpipialmneaa.S4
open Go Go.Proofs.Ytkehpipialmneaa.SL Go.Proofs.Ytkehpipialmneaa.SL.W Go.Proofs.Ytkehpipialmneaa.SL.C Go.Proofs.Ytkehpipialmneaa.SL.H Go.Proofs.Ytkehpipialmneaa.SL.M Go.Proofs.Ytkehpipialmneaa.SL.Y Go.Proofs.Ytkehpipialmneaa.SL.A Go.Proofs.Ytkehpipialmneaa.SL.B Go.Proofs.Ytkehpipialmneaa.X1 Go.Proofs.Ytkehpipialmneaa.X2 Go.Proofs.Ytkehpipialmneaa.X3 Go.Proofs.Ytkehpipialmneaa.X4 Go.Proofs.Ytkehpipialmneaa.X5 Go.Proofs.Ytkehpipialmneaa.X6 Go.Proofs.Ytkehpipialmneaa.X7 Go.Proofs.Ytkehpipialmneaa.X8 Go.Proofs.Ytkehpipialmneaa.X9 Go.Proofs.Ytkehpipialmneaa.Z1 Go.Proofs.Ytkehpipialmneaa.Z2 Go.Proofs.Ytkehpipialmneaa.S1 Go.Proofs.Ytkehpipialmneaa.S2 Go.Proofs.Ytkehpipialmneaa.S3
set_option linter.unusedVariables false
set_option linter.unusedSimpArgs false
set_option maxRecDepth 100000
set_option maxHeartbeats 40000000
def U : Tab where
  und := [(3, .int .i64), (5, .int .u8), (24, .slice 5), (67, .slice 24)]
  fld := []
  sz := [(3, 1), (5, 1), (24, 1), (67, 1)]
  ti := [(3, (1, 8, .int .i64 0)), (5, (1, 1, .int .u8 0)), (24, (1, 24, .slice none 0 0)), (67, (1, 24, .slice none 0 0))]
  bld := []

theorem hU : U.OK Try.prog where
  und := by
    intro p hp
    simp only [U, List.mem_cons, List.not_mem_nil, or_false] at hp
    rcases hp with rfl | rfl | rfl | rfl
    · exact Try.underlying3
    · exact Try.underlying5
    · exact Try.underlying24
    · exact Try.underlying67
  fld := by
    intro p hp; cases hp
  sz := by
    intro p hp
    simp only [U, List.mem_cons, List.not_mem_nil, or_false] at hp
    rcases hp with rfl | rfl | rfl | rfl
    · exact ⟨Try.prog.types[3]!, by kernel_rfl, by kernel_rfl⟩
    · exact ⟨Try.prog.types[5]!, by kernel_rfl, by kernel_rfl⟩
    · exact ⟨Try.prog.types[24]!, by kernel_rfl, by kernel_rfl⟩
    · exact ⟨Try.prog.types[67]!, by kernel_rfl, by kernel_rfl⟩
  ti := by
    intro p hp
    simp only [U, List.mem_cons, List.not_mem_nil, or_false] at hp
    rcases hp with rfl | rfl | rfl | rfl
    · exact ⟨Try.prog.types[3]!, by kernel_rfl, by kernel_rfl, by kernel_rfl, by kernel_rfl⟩
    · exact ⟨Try.prog.types[5]!, by kernel_rfl, by kernel_rfl, by kernel_rfl, by kernel_rfl⟩
    · exact ⟨Try.prog.types[24]!, by kernel_rfl, by kernel_rfl, by kernel_rfl, by kernel_rfl⟩
    · exact ⟨Try.prog.types[67]!, by kernel_rfl, by kernel_rfl, by kernel_rfl, by kernel_rfl⟩
  bld := by
    intro p hp; cases hp
  mixed := by kernel_rfl

theorem sl_AppendSeq_spec (A : Option Addr) (c : Nat) (xs : List Int) (n : Int) (bi : Nat) (bj : Nat) (hx : In .u8 xs) (hn : xs.length ≤ 1000000) (hlc : xs.length ≤ c) (h1 : 1 ≤ n) (h2 : n ≤ 1000000) :
    CallsS Try.prog 74 [.slice none 0 0, .func (.func 75) #[] #[pt bi, pt bj]] [blk bi 24 [.slice A xs.length c], blk bj 3 [.int .i64 n], vw A (nums .u8 xs)] (fun r D => ∃ (B : Option Addr) (d : Nat) (rs : List Ro), r = .slice B rs.length d ∧ D = [row 24 1 (.slice B rs.length d) rs.length (rowsV rs)] ∧ (rs = chR A xs n.toNat (chn n.toNat xs.length)) ∧ (rs.length ≤ d) ∧ (0 < rs.length → Option.isSome B = true)) := by
  refine CallsS.enter hU Try.f74 _ [.tmp 4] 13 Try.func74 rfl (by decide) rfl rfl (by kernel_rfl) fun w0 W => ?_
  refine RunC.know (p := 0 < xs.length → Option.isSome A = true) (fun _ _ w hs => vw_some hs 2 rfl (by (simp [nums_length]; done))) (fun hA1 => ?_)
  refine RunC.sr ?_
  refine RunR.st (some 2) (.box 67 (.tmp 0)) (Step.box (.slice none 0 0) (by kernel_rfl) (by kernel_rfl) (fun b2 => ?_))
  refine RunR.sl hU [] 1 2 [1, 2, 4] [(1, .func (.func 75) #[] #[pt bi, pt bj]), (2, pt b2), (4, .slice none 0 0)] 1 ?_
  refine RunR.nn ?_
  refine RunC.seq ?_
  refine RunC.sr ?_
  refine RunR.sl hU [] 1 1 [2, 4, 6] [(2, pt b2), (4, .slice none 0 0), (6, .func (.func 75) #[] #[pt bi, pt bj])] 1 ?_
  refine RunR.nn ?_
  refine RunC.block ?_
  refine RunC.turn ([row 24 1 (.slice none 0 0) 0 (rowsV ([] : List Ro)), blk b2 67 [.slice none 0 0], blk bi 24 [.slice A xs.length c], blk bj 3 [.int .i64 n], vw A (nums .u8 xs)]) (fun _ _ w hs => hs.nil_row 24 1) ?_
  refine RunC.env [2, 4, 6] [(2, pt b2), (4, .slice none 0 0), (6, .func (.func 75) #[] #[pt bi, pt bj])] (by kernel_rfl) ?_
  refine RunC.rangeFunc (α := List Fact) (β := List Fact) 75 [pt bi, pt bj] (by kernel_rfl) (chn n.toNat xs.length) (fun i_ => [.slice (subBase A (n.toNat * i_) (n.toNat * i_ + (chunk n.toNat xs i_).length) 1) ((chunk n.toNat xs i_).length) ((chunk n.toNat xs i_).length)]) (fun i_ => [vw (subBase A (n.toNat * i_) (n.toNat * i_ + (chunk n.toNat xs i_).length) 1) (nums .u8 (chunk n.toNat xs i_))]) [blk bi 24 [.slice A xs.length c], blk bj 3 [.int .i64 n]] [vw A (nums .u8 xs)] (sl_ChunkN_it A c xs n bi bj hx (by assumption) (by assumption) (by assumption) (by assumption)) (fun i_ D_ => ∃ (rs : List Ro) (B : Option Addr) (d : Nat), (rs = chR A xs n.toNat i_) ∧ (rs.length ≤ d) ∧ (0 < rs.length → Option.isSome B = true) ∧ (rs.length = i_) ∧ D_ = [blk b2 67 [.slice B rs.length d], row 24 1 (.slice B rs.length d) rs.length (rowsV rs)]) (fun D_ => D_) .ret (fun (_ : List Fact) => False) (fun D_ => D_) [vw A (nums .u8 xs)] [vw A (nums .u8 xs)] [blk b2 67 [.slice none 0 0], row 24 1 (.slice none 0 0) 0 (rowsV ([] : List Ro))] ⟨([] : List Ro), none, 0, (by rfl), (by exact Nat.zero_le _), (by intro h; simp at h), (by rfl), rfl⟩ [1, 0, 0, 0] (by kernel_rfl) ((Lend.nil _).same 0 (vw A (nums .u8 xs)) (by kernel_rfl) rfl) (fun f_ hf_ => by have := List.all_eq_true.1 (by rfl : List.all [vw A (nums .u8 xs)] (fun g_ => !g_.own) = true) f_ hf_; simpa using this) ((Lend.nil _).tells 0 (vw A (nums .u8 xs)) A (nums .u8 xs) (by kernel_rfl) (tells_vw _ _)) (fun i_ D_ hp_ f_ hf_ => by obtain ⟨_, _, _, _, _, _, _, rfl⟩ := hp_; exact List.all_eq_true.1 (by rfl : List.all _ (·.own) = true) f_ hf_) (fun _ h => h.elim) (fun _ => rfl) (by rfl) ?_ ?_ (fun _ h => h.elim)
  · intro l_ R_ i_ _ hlt_ hp_
    obtain ⟨rs, B, d, hr, hd, hB, hrl, rfl⟩ := hp_
    refine RunC.env [2, 4, 6, 7] [(2, pt b2), (4, .slice none 0 0), (6, .func (.func 75) #[] #[pt bi, pt bj]), (7, .slice (subBase A (n.toNat * i_) (n.toNat * i_ + (chunk n.toNat xs i_).length) 1) ((chunk n.toNat xs i_).length) ((chunk n.toNat xs i_).length))] (by kernel_rfl) ?_
    refine RunC.only [0, 0, 0, 0, 0] [objF l_ (.loop (R_ .ready none)), blk b2 67 [.slice B rs.length d], row 24 1 (.slice B rs.length d) rs.length (rowsV rs), vw A (nums .u8 xs), vw (subBase A (n.toNat * i_) (n.toNat * i_ + (chunk n.toNat xs i_).length) 1) (nums .u8 (chunk n.toNat xs i_))] (by kernel_rfl) ?_
    have hil_ := chn_le n.toNat xs.length
    have hev_ : In .u8 (chunk n.toNat xs i_) := chunk_in (by assumption) _
    refine RunC.region ?_
    refine RunR.sl hU [] 1 1 [2, 5] [(2, pt b2), (5, .slice (subBase A (n.toNat * i_) (n.toNat * i_ + (chunk n.toNat xs i_).length) 1) ((chunk n.toNat xs i_).length) ((chunk n.toNat xs i_).length))] 1 ?_
    refine RunR.dn ?_
    refine kassign_n 0 (by kernel_rfl) ?_
    refine RunC.block ?_
    refine RunC.region ?_
    refine RunR.st (some 8) (.load 67 (.tmp 2)) (Step.load_blk hU 1 b2 (0) 67 [.slice B rs.length d] (.slice B rs.length d) (by kernel_rfl) (by kernel_rfl) (by kernel_rfl) (by kernel_rfl) ?_)
    refine RunR.sl hU [] 1 2 [2, 8, 9] [(2, pt b2), (8, .slice B rs.length d), (9, .slice (subBase A (n.toNat * i_) (n.toNat * i_ + (chunk n.toNat xs i_).length) 1) ((chunk n.toNat xs i_).length) ((chunk n.toNat xs i_).length))] 1 ?_
    refine RunR.st (some 10) (.buildSlice 67 1 #[(0, .tmp 9)]) (Step.lit_rows hU 24 24 (.slice none 0 0) [.slice (subBase A (n.toNat * i_) (n.toNat * i_ + (chunk n.toNat xs i_).length) 1) ((chunk n.toNat xs i_).length) ((chunk n.toNat xs i_).length)] rfl rfl (by kernel_rfl) rfl rfl (by kernel_rfl) (fun b3 => ?_))
    refine RunR.st (some 11) (.call { callee := .builtin .append, args := #[.tmp 8, .tmp 10], argTypes := #[67, 67] }) (Step.append_rows hU 24 24 (.slice none 0 0) 3 0 B rs.length d rs (some ⟨b3, 0, none⟩) 1 1 (row 24 1 (.slice (some ⟨b3, 0, none⟩) 1 1) 1 (rowsV ((subBase A (n.toNat * i_) (n.toNat * i_ + (chunk n.toNat xs i_).length) 1, (chunk n.toNat xs i_).length, (chunk n.toNat xs i_)) :: []))) ((subBase A (n.toNat * i_) (n.toNat * i_ + (chunk n.toNat xs i_).length) 1, (chunk n.toNat xs i_).length, (chunk n.toNat xs i_)) :: []) (by kernel_rfl) (by kernel_rfl) (by kernel_rfl) (by kernel_rfl) (by kernel_rfl) (by kernel_rfl) (by kernel_rfl) (tells_row _ _ _ _ _ _) (by rfl) (by rfl) (by simp only [List.length_cons, List.length_nil]; omega) (by simp only [List.length_cons, List.length_nil]; omega) (by kernel_rfl) (fun Aq4 cq5 hc6 hA7 => ?_))
    have hc8 : (rs ++ (subBase A (n.toNat * i_) (n.toNat * i_ + (chunk n.toNat xs i_).length) 1, (chunk n.toNat xs i_).length, (chunk n.toNat xs i_)) :: [] : List Ro).length ≤ cq5 := hc6
    refine RunR.st none (.store 67 (.tmp 2) (.tmp 11)) (Step.store_blk hU 3 b2 0 67 [.slice B rs.length d] (.slice Aq4 ((rs ++ (subBase A (n.toNat * i_) (n.toNat * i_ + (chunk n.toNat xs i_).length) 1, (chunk n.toNat xs i_).length, (chunk n.toNat xs i_)) :: [] : List Ro).length) cq5) (by kernel_rfl) (by kernel_rfl) (by kernel_rfl) 1 rfl [.slice Aq4 ((rs ++ (subBase A (n.toNat * i_) (n.toNat * i_ + (chunk n.toNat xs i_).length) 1, (chunk n.toNat xs i_).length, (chunk n.toNat xs i_)) :: [] : List Ro).length) cq5] (by kernel_rfl) rfl (by kernel_rfl) (by simp) ?_)
    refine RunR.dn ?_
    refine kblock_n ?_
    refine kyield_n _ [3, 0, 0] [objF l_ (.loop (R_ .busy none)), blk b2 67 [.slice Aq4 ((rs ++ (subBase A (n.toNat * i_) (n.toNat * i_ + (chunk n.toNat xs i_).length) 1, (chunk n.toNat xs i_).length, (chunk n.toNat xs i_)) :: [] : List Ro).length) cq5], row 24 1 (.slice Aq4 ((rs ++ (subBase A (n.toNat * i_) (n.toNat * i_ + (chunk n.toNat xs i_).length) 1, (chunk n.toNat xs i_).length, (chunk n.toNat xs i_)) :: [] : List Ro).length) cq5) ((rs ++ (subBase A (n.toNat * i_) (n.toNat * i_ + (chunk n.toNat xs i_).length) 1, (chunk n.toNat xs i_).length, (chunk n.toNat xs i_)) :: [] : List Ro).length) (rowsV (rs ++ (subBase A (n.toNat * i_) (n.toNat * i_ + (chunk n.toNat xs i_).length) 1, (chunk n.toNat xs i_).length, (chunk n.toNat xs i_)) :: []))] (by kernel_rfl) ⟨(rs ++ (subBase A (n.toNat * i_) (n.toNat * i_ + (chunk n.toNat xs i_).length) 1, (chunk n.toNat xs i_).length, (chunk n.toNat xs i_)) :: []), Aq4, cq5, (by rw [hr]; exact chR_snoc _ _ _ _), (by assumption), (fun h => hA7 (by exact h)), (by rw [List.length_append, hrl]; rfl), (by rfl)⟩ rfl
  · intro _ hp_
    obtain ⟨rs, B, d, hr, hd, hB, hrl, rfl⟩ := hp_
    refine kblock_n ?_
    refine kseq_n ?_
    refine RunC.sr ?_
    refine RunR.st (some 12) (.load 67 (.tmp 2)) (Step.load_blk hU 0 b2 (0) 67 [.slice B rs.length d] (.slice B rs.length d) (by kernel_rfl) (by kernel_rfl) (by kernel_rfl) (by kernel_rfl) ?_)
    refine RunR.sl hU [] 1 2 [4] [(4, .slice B rs.length d)] 1 ?_
    refine RunR.nn ?_
    refine RunC.ret ?_
    refine kret_r [.slice B rs.length d] [1] [row 24 1 (.slice B rs.length d) rs.length (rowsV rs)] ⟨rfl, trivial⟩ (by kernel_rfl) rfl ⟨B, d, rs, rfl, rfl, (by assumption), (by assumption), (fun h => hB (by exact h))⟩

theorem sl_Collect_spec (A : Option Addr) (c : Nat) (xs : List Int) (n : Int) (bi : Nat) (bj : Nat) (hx : In .u8 xs) (hn : xs.length ≤ 1000000) (hlc : xs.length ≤ c) (h1 : 1 ≤ n) (h2 : n ≤ 1000000) :
    CallsS Try.prog 50 [.func (.func 75) #[] #[pt bi, pt bj]] [blk bi 24 [.slice A xs.length c], blk bj 3 [.int .i64 n], vw A (nums .u8 xs)] (fun r D => ∃ (B : Option Addr) (d : Nat) (rs : List Ro), r = .slice B rs.length d ∧ D = [row 24 1 (.slice B rs.length d) rs.length (rowsV rs)] ∧ (rs = chR A xs n.toNat (chn n.toNat xs.length)) ∧ (rs.length ≤ d) ∧ (0 < rs.length → Option.isSome B = true)) := by
  refine CallsS.enter hU Try.f50 _ [.tmp 2] 5 Try.func50 rfl (by decide) rfl rfl (by kernel_rfl) fun w0 W => ?_
  refine RunC.know (p := 0 < xs.length → Option.isSome A = true) (fun _ _ w hs => vw_some hs 2 rfl (by (simp [nums_length]; done))) (fun hA1 => ?_)
  refine RunC.sr ?_
  refine RunR.sl hU [] 1 1 [0, 2] [(0, .func (.func 75) #[] #[pt bi, pt bj]), (2, .slice none 0 0)] 1 ?_
  refine RunR.nx ?_
  refine RunR.sl hU [] 1 1 [2, 3] [(2, .slice none 0 0), (3, .func (.func 75) #[] #[pt bi, pt bj])] 1 ?_
  refine RunR.st (some 4) (.call { callee := .value (.func 74), args := #[.const (.slice none 0 0), .tmp 3], argTypes := #[67, 93] }) (Step.cl 74 [.slice none 0 0, .func (.func 75) #[] #[pt bi, pt bj]] [blk bi 24 [.slice A xs.length c], blk bj 3 [.int .i64 n]] [vw A (nums .u8 xs)] [vw A (nums .u8 xs)] (sl_AppendSeq_spec A c xs n bi bj hx (by assumption) (by assumption) (by assumption) (by assumption)) [0, 0] ((Lend.nil _).tells 0 (vw A (nums .u8 xs)) A (nums .u8 xs) (by kernel_rfl) (tells_vw _ _)) ?_)
  rintro _ _ ⟨B2, d3, rs4, rfl, rfl, hp5, hp6, hp7⟩
  refine RunR.sl hU [] 1 3 [2] [(2, .slice B2 rs4.length d3)] 1 ?_
  refine RunR.nn ?_
  refine RunC.ret ?_
  refine kret_r [.slice B2 rs4.length d3] [0] [row 24 1 (.slice B2 rs4.length d3) rs4.length (rowsV rs4)] ⟨rfl, trivial⟩ (by kernel_rfl) rfl ⟨B2, d3, rs4, rfl, rfl, (by assumption), (by assumption), (fun h => hp7 (by exact h))⟩

theorem s_pieces_spec (A : Option Addr) (c : Nat) (xs : List Int) (n : Int) (l_xs : Nat) (hx : In .u8 xs) (hn : xs.length ≤ 1000000) (hlc : xs.length ≤ c) (h1 : 1 ≤ n) (h2 : n ≤ 1000000) (hl_xs : xs.length = l_xs) :
    CallsS Try.prog 29 [.slice A l_xs c, .int .i64 n] [vw A (nums .u8 xs)] (fun r D => ∃ (B : Option Addr) (d : Nat) (rs : List Ro), r = .slice B rs.length d ∧ D = [row 24 1 (.slice B rs.length d) rs.length (rowsV rs)] ∧ (Pcs rs A xs n.toNat) ∧ (rs.length ≤ d) ∧ (0 < rs.length → Option.isSome B = true) ∧ (RowsOK .u8 rs)) := by
  subst hl_xs
  refine CallsS.enter hU Try.f29 _ [.tmp 4] 13 Try.func29 rfl (by decide) rfl rfl (by kernel_rfl) fun w0 W => ?_
  refine RunC.know (p := 0 < xs.length → Option.isSome A = true) (fun _ _ w hs => vw_some hs 0 rfl (by (simp [nums_length]; done))) (fun hA1 => ?_)
  refine RunC.sr ?_
  refine RunR.sl hU [] 1 1 [0, 1, 4] [(0, .slice A xs.length c), (1, .int .i64 n), (4, .slice none 0 0)] 1 ?_
  refine RunR.nn ?_
  refine RunC.seq ?_
  refine RunC.sr ?_
  refine RunR.sl hU [] 3 3 [0, 1, 4, 7] [(0, .slice A xs.length c), (1, .int .i64 n), (4, .slice none 0 0), (7, .bool (decide (((xs.length : Nat) : Int) = 0)))] 3 ?_
  refine RunR.nn ?_
  refine RunC.condp (((xs.length : Nat) : Int) = 0) (by kernel_rfl) (fun h2 => ?_) (fun h2 => ?_)
  · skip
    refine RunC.sr ?_
    refine RunR.turn ([vw none (nums .u8 ([] : List Int)), vw A (nums .u8 xs)]) (fun _ _ w hs => hs.nil_vw none) ?_
    refine RunR.st (some 8) (.buildSlice 67 1 #[(0, .const (.slice none 0 0))]) (Step.lit_rows hU 24 24 (.slice none 0 0) [.slice none 0 0] rfl rfl (by kernel_rfl) rfl rfl (by kernel_rfl) (fun b3 => ?_))
    refine RunR.sl hU [] 1 2 [0, 1, 4] [(0, .slice A xs.length c), (1, .int .i64 n), (4, .slice (some ⟨b3, 0, none⟩) 1 1)] 1 ?_
    refine RunR.nn ?_
    refine RunC.ret ?_
    refine kseq_r ?_
    refine kret_r [.slice (some ⟨b3, 0, none⟩) 1 1] [0] [row 24 1 (.slice (some ⟨b3, 0, none⟩) 1 1) 1 (rowsV ((none, 0, ([] : List Int)) :: []))] ⟨rfl, trivial⟩ (by kernel_rfl) rfl ⟨(some ⟨b3, 0, none⟩), 1, ((none, 0, ([] : List Int)) :: []), rfl, rfl, (by exact pcs_nil (by omega)), (by exact Nat.le_refl _), (by intro _; rfl), (by rw [pcs_nil (A := A) (n := n.toNat) (show xs.length = 0 by omega)]; exact pcs_ok hx (by omega))⟩
  · skip
    refine RunC.ksr ?_
    refine RunR.sl hU [] 2 2 [4, 9, 10] [(4, .slice none 0 0), (9, .slice A xs.length c), (10, .int .i64 n)] 2 ?_
    refine RunR.st (some 11) (.call { callee := .value (.func 51), args := #[.tmp 9, .tmp 10], argTypes := #[24, 3] }) (Step.cn 51 [.slice A xs.length c, .int .i64 n] [] [vw A (nums .u8 xs)] (sl_ChunkV_spec A c xs.length n (by assumption)) [] ?_)
    rintro _ _ ⟨bi4, bj5, rfl, rfl⟩
    refine RunR.st (some 12) (.call { callee := .value (.func 50), args := #[.tmp 11], argTypes := #[93] }) (Step.cl 50 [.func (.func 75) #[] #[pt bi4, pt bj5]] [blk bi4 24 [.slice A xs.length c], blk bj5 3 [.int .i64 n]] [vw A (nums .u8 xs)] [vw A (nums .u8 xs)] (sl_Collect_spec A c xs n bi4 bj5 hx (by assumption) (by assumption) (by assumption) (by assumption)) [0, 0] ((Lend.nil _).tells 0 (vw A (nums .u8 xs)) A (nums .u8 xs) (by kernel_rfl) (tells_vw _ _)) ?_)
    rintro _ _ ⟨B6, d7, rs8, rfl, rfl, hp9, hp10, hp11⟩
    refine RunR.sl hU [] 1 5 [4] [(4, .slice B6 rs8.length d7)] 1 ?_
    refine RunR.nn ?_
    refine RunC.ret ?_
    refine kret_r [.slice B6 rs8.length d7] [0] [row 24 1 (.slice B6 rs8.length d7) rs8.length (rowsV rs8)] ⟨rfl, trivial⟩ (by kernel_rfl) rfl ⟨B6, d7, rs8, rfl, rfl, (by rw [hp9]; exact pcs_chR (by omega)), (by assumption), (by assumption), (by simp only [hp9]; rw [pcs_chR (by omega)]; exact pcs_ok hx (by omega))⟩
end Go.Proofs.Ytkehpipialmneaa.S4
