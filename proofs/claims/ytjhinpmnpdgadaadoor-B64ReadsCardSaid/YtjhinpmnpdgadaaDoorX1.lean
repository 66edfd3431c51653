/- What these functions compute: a contract for each, walked through its code. -/
import Derived.Test.YtjhinpmnpdgadaaDoorBTPure
import Derived.Test.YtjhinpmnpdgadaaDoorProg
namespace Go.Proofs.YtjhinpmnpdgadaaDoor.X1
open Go Go.Proofs.YtjhinpmnpdgadaaDoor.SL Go.Proofs.YtjhinpmnpdgadaaDoor.SL.W Go.Proofs.YtjhinpmnpdgadaaDoor.SL.Y Go.Proofs.YtjhinpmnpdgadaaDoor.SL.B
set_option linter.unusedVariables false
set_option linter.unusedSimpArgs false
set_option maxRecDepth 100000
set_option maxHeartbeats 40000000
def U : Tab where
  und := [(3, .int .i64), (5, .int .u8), (22, .slice 5)]
  fld := []
  sz := [(3, 1), (5, 1), (22, 1)]
  ti := [(3, (1, 8, .int .i64 0)), (5, (1, 1, .int .u8 0)), (22, (1, 24, .slice none 0 0))]
  bld := []

theorem hU : U.OK Tryd.prog where
  und := by
    intro p hp
    simp only [U, List.mem_cons, List.not_mem_nil, or_false] at hp
    rcases hp with rfl | rfl | rfl
    · exact Tryd.underlying3
    · exact Tryd.underlying5
    · exact Tryd.underlying22
  fld := by
    intro p hp; cases hp
  sz := by
    intro p hp
    simp only [U, List.mem_cons, List.not_mem_nil, or_false] at hp
    rcases hp with rfl | rfl | rfl
    · exact ⟨Tryd.prog.types[3]!, by kernel_rfl, by kernel_rfl⟩
    · exact ⟨Tryd.prog.types[5]!, by kernel_rfl, by kernel_rfl⟩
    · exact ⟨Tryd.prog.types[22]!, by kernel_rfl, by kernel_rfl⟩
  ti := by
    intro p hp
    simp only [U, List.mem_cons, List.not_mem_nil, or_false] at hp
    rcases hp with rfl | rfl | rfl
    · exact ⟨Tryd.prog.types[3]!, by kernel_rfl, by kernel_rfl, by kernel_rfl, by kernel_rfl⟩
    · exact ⟨Tryd.prog.types[5]!, by kernel_rfl, by kernel_rfl, by kernel_rfl, by kernel_rfl⟩
    · exact ⟨Tryd.prog.types[22]!, by kernel_rfl, by kernel_rfl, by kernel_rfl, by kernel_rfl⟩
  bld := by
    intro p hp; cases hp
  mixed := by kernel_rfl

theorem r_Equal_spec (A : Option Addr) (c : Nat) (xs : List Int) (A2 : Option Addr) (c2 : Nat) (ys : List Int) (l_xs : Nat) (l_ys : Nat) (hx : In .u8 xs) (hn : xs.length ≤ 140737488351232) (hy : In .u8 ys) (hm : ys.length ≤ 140737488351232) (hl_xs : xs.length = l_xs) (hl_ys : ys.length = l_ys) :
    CallsS Tryd.prog 15 [.slice A l_xs c, .slice A2 l_ys c2] [vw A (nums .u8 xs), vw A2 (nums .u8 ys)] (fun r D => r = .bool (decide (xs = ys)) ∧ D = []) := by
  subst hl_xs
  subst hl_ys
  refine CallsS.enter hU Tryd.f15 _ [.tmp 4] 26 Tryd.func15 rfl (by decide) rfl rfl (by kernel_rfl) fun w0 W => ?_
  refine RunC.know (p := 0 < xs.length → Option.isSome A = true) (fun _ _ w hs => vw_some hs 0 rfl (by first | (simp [nums_length]; done) | exact dosV_len _ | exact bls_len _ | exact chV_len _)) (fun hA1 => ?_)
  refine RunC.know (p := 0 < ys.length → Option.isSome A2 = true) (fun _ _ w hs => vw_some hs 1 rfl (by first | (simp [nums_length]; done) | exact dosV_len _ | exact bls_len _ | exact chV_len _)) (fun hA2 => ?_)
  refine RunC.seq ?_
  refine RunC.region ?_
  refine RunR.sil hU [] 1 1 [0, 1, 4] [(0, .slice A xs.length c), (1, .slice A2 ys.length c2), (4, .bool false)] ((True) ∧ True) rfl (by kernel_rfl) ⟨trivial, trivial⟩ ?_
  refine RunR.done (by kernel_rfl) ?_
  refine kseq_n ?_
  refine RunC.seq ?_
  refine RunC.seq ?_
  refine RunC.region ?_
  refine RunR.sil hU [] 5 5 [0, 1, 4, 10] [(0, .slice A xs.length c), (1, .slice A2 ys.length c2), (4, .bool false), (10, .bool (!decide (((xs.length : Nat) : Int) = ((ys.length : Nat) : Int))))] ((True) ∧ (True) ∧ (True) ∧ (True) ∧ (True) ∧ True) rfl (by kernel_rfl) ⟨trivial, trivial, trivial, trivial, trivial, trivial⟩ ?_
  refine RunR.done (by kernel_rfl) ?_
  refine kseq_n ?_
  refine RunC.condn (((xs.length : Nat) : Int) = ((ys.length : Nat) : Int)) (by kernel_rfl) (fun h3 => ?_) (fun h3 => ?_)
  · skip
    refine RunC.seq ?_
    refine RunC.region ?_
    refine RunR.sil hU [] 1 1 [0, 1, 4] [(0, .slice A xs.length c), (1, .slice A2 ys.length c2), (4, .bool false)] ((True) ∧ True) rfl (by kernel_rfl) ⟨trivial, trivial⟩ ?_
    refine RunR.done (by kernel_rfl) ?_
    refine kseq_n ?_
    refine RunC.ret ?_
    refine kseq_r ?_
    refine kret_r [.bool false] [] [] ⟨rfl, trivial⟩ (by kernel_rfl) rfl ⟨(by first | rfl | (exact congrArg Value.bool (decide_eq_false (fun e => absurd (congrArg List.length e) (by omega))).symm)), (by first | rfl | (exact congrArg Value.bool (decide_eq_false (fun e => absurd (congrArg List.length e) (by omega))).symm))⟩
  · skip
    refine RunC.skip ?_
    refine kseq_n ?_
    refine RunC.seq ?_
    refine RunC.seq ?_
    refine RunC.region ?_
    refine RunR.sil hU [] 1 1 [0, 1, 4, 5] [(0, .slice A xs.length c), (1, .slice A2 ys.length c2), (4, .bool false), (5, .int .i64 0)] ((True) ∧ True) rfl (by kernel_rfl) ⟨trivial, trivial⟩ ?_
    refine RunR.done (by kernel_rfl) ?_
    refine kseq_n ?_
    refine RunC.block ?_
    refine RunC.env [0, 1, 5] [(0, .slice A xs.length c), (1, .slice A2 ys.length c2), (5, .int .i64 0)] (by kernel_rfl) ?_
    refine RunC.only [0, 0] [vw A (nums .u8 xs), vw A2 (nums .u8 ys)] (by kernel_rfl) ?_
    refine RunC.loop (σ := Nat) (fun n_ t_ D_ => ∃ (i : Int), (0 ≤ i) ∧ (i ≤ (xs.length : Int)) ∧ (xs.take i.toNat = ys.take i.toNat) ∧ n_ = ((xs.length - i).toNat : Nat) ∧ t_ = [(0, .slice A xs.length c), (1, .slice A2 ys.length c2), (5, .int .i64 i)] ∧ D_ = [vw A (nums .u8 xs), vw A2 (nums .u8 ys)]) id _ ⟨0, (by first | assumption | omega | (simp only [List.length_append, List.length_cons, List.length_nil, List.length_set, List.length_replicate, List.length_take, List.length_drop]; omega) | (simp only [fits] at *; omega) | (simp only [List.length_append, List.length_cons, List.length_nil, List.length_set, List.length_replicate, List.length_take, List.length_drop] at *; omega) | (simp; done) | decide), (by first | assumption | omega | (simp only [List.length_append, List.length_cons, List.length_nil, List.length_set, List.length_replicate, List.length_take, List.length_drop]; omega) | (simp only [fits] at *; omega) | (simp only [List.length_append, List.length_cons, List.length_nil, List.length_set, List.length_replicate, List.length_take, List.length_drop] at *; omega) | (simp; done) | decide), (by simp), rfl, rfl, rfl⟩ ?_
    rintro n_ _ _ ⟨i, hi, hin, he, rfl, rfl, rfl⟩
    refine RunC.seq ?_
    refine RunC.seq ?_
    refine RunC.region ?_
    refine RunR.sil hU [] 4 4 [0, 1, 5, 14] [(0, .slice A xs.length c), (1, .slice A2 ys.length c2), (5, .int .i64 i), (14, .bool (decide (i < ((xs.length : Nat) : Int))))] ((True) ∧ (True) ∧ (True) ∧ (True) ∧ True) rfl (by kernel_rfl) ⟨trivial, trivial, trivial, trivial, trivial⟩ ?_
    refine RunR.done (by kernel_rfl) ?_
    refine kseq_n ?_
    refine RunC.condp (i < ((xs.length : Nat) : Int)) (by kernel_rfl) (fun h4 => ?_) (fun h4 => ?_)
    · skip
      refine RunC.skip ?_
      refine kseq_n ?_
      refine RunC.seq ?_
      refine RunC.block ?_
      refine RunC.seq ?_
      refine RunC.regionU hU 9 [vw A (nums .u8 xs), vw A2 (nums .u8 ys)] [0, 1] [] (bm 9 0) (by kernel_rfl) (by kernel_rfl) (by kernel_rfl) ?_
      refine RunU.sil hU false 0 (bm 9 1) 17 (.slice A xs.length c) (True) (by kernel_rfl) trivial (by kernel_rfl) (by kernel_rfl) (fun _ _ _ h => h) ?_
      refine RunU.sil hU false 1 (bm 9 3) 18 (.int .i64 i) (True) (by kernel_rfl) trivial (by kernel_rfl) (by kernel_rfl) (fun _ _ _ h => h) ?_
      refine RunU.sil hU false 2 (bm 9 7) 19 (.pointer (elemAt A i 1)) ((0 ≤ i ∧ i < ((xs.length : Nat) : Int)) ∧ Option.isSome A = true) (by kernel_rfl) ⟨by omega, hA1 (by omega)⟩ (by kernel_rfl) (by kernel_rfl) (fun _ _ _ h => h) ?_
      refine RunU.read 3 (bm 9 15) 20 (.load 5 (.tmp 19)) (.int .u8 (xs.getD (i).toNat 0)) [0, 1] (by kernel_rfl) (Reads.load_num hU 0 (vw A (nums .u8 xs)) A i .u8 xs rfl (by kernel_rfl) (by kernel_rfl) (tells_vw _ _) (by omega)) (by kernel_rfl) (by kernel_rfl) (by kernel_rfl) (by kernel_rfl) (fun _ _ _ h => h) ?_
      have hb5 : 0 ≤ xs.getD ((i).toNat) 0 ∧ xs.getD ((i).toNat) 0 < 256 := hx.at_ _
      refine RunU.sil hU false 4 (bm 9 31) 21 (.slice A2 ys.length c2) (True) (by kernel_rfl) trivial (by kernel_rfl) (by kernel_rfl) (fun _ _ _ h => h) ?_
      refine RunU.sil hU false 5 (bm 9 63) 22 (.int .i64 i) (True) (by kernel_rfl) trivial (by kernel_rfl) (by kernel_rfl) (fun _ _ _ h => h) ?_
      refine RunU.sil hU false 6 (bm 9 127) 23 (.pointer (elemAt A2 i 1)) ((0 ≤ i ∧ i < ((ys.length : Nat) : Int)) ∧ Option.isSome A2 = true) (by kernel_rfl) ⟨by omega, hA2 (by omega)⟩ (by kernel_rfl) (by kernel_rfl) (fun _ _ _ h => h) ?_
      refine RunU.read 7 (bm 9 255) 24 (.load 5 (.tmp 23)) (.int .u8 (ys.getD (i).toNat 0)) [0, 1] (by kernel_rfl) (Reads.load_num hU 1 (vw A2 (nums .u8 ys)) A2 i .u8 ys rfl (by kernel_rfl) (by kernel_rfl) (tells_vw _ _) (by omega)) (by kernel_rfl) (by kernel_rfl) (by kernel_rfl) (by kernel_rfl) (fun _ _ _ h => h) ?_
      have hb6 : 0 ≤ ys.getD ((i).toNat) 0 ∧ ys.getD ((i).toNat) 0 < 256 := hy.at_ _
      refine RunU.sil hU false 8 (bm 9 511) 25 (.bool (!decide ((xs.getD (i).toNat 0) = (ys.getD (i).toNat 0)))) (True) (by kernel_rfl) trivial (by kernel_rfl) (by kernel_rfl) (fun _ _ _ h => h) ?_
      refine RunU.env [0, 1, 5, 25] [(0, .slice A xs.length c), (1, .slice A2 ys.length c2), (5, .int .i64 i), (25, .bool (!decide ((xs.getD (i).toNat 0) = (ys.getD (i).toNat 0))))] (by kernel_rfl) ?_
      refine RunU.done (by kernel_rfl) ?_
      refine kseq_n ?_
      refine RunC.condn ((xs.getD (i).toNat 0) = (ys.getD (i).toNat 0)) (by kernel_rfl) (fun h7 => ?_) (fun h7 => ?_)
      · skip
        refine RunC.seq ?_
        refine RunC.region ?_
        refine RunR.sil hU [] 1 1 [0, 1, 4, 5] [(0, .slice A xs.length c), (1, .slice A2 ys.length c2), (4, .bool false), (5, .int .i64 i)] ((True) ∧ True) rfl (by kernel_rfl) ⟨trivial, trivial⟩ ?_
        refine RunR.done (by kernel_rfl) ?_
        refine kseq_n ?_
        refine RunC.ret ?_
        refine kblock_r ?_
        refine kseq_r ?_
        refine kloop_r ?_
        refine kblock_r ?_
        refine kseq_r ?_
        refine kret_r [.bool false] [] [] ⟨rfl, trivial⟩ (by kernel_rfl) rfl ⟨(by first | rfl | (exact congrArg Value.bool (decide_eq_false (ne_of_getD (by assumption))).symm)), (by first | rfl | (exact congrArg Value.bool (decide_eq_false (ne_of_getD (by assumption))).symm))⟩
      · skip
        refine RunC.skip ?_
        refine kblock_n ?_
        refine kseq_n ?_
        refine RunC.region ?_
        refine RunR.sil hU [1] 3 3 [0, 1, 5] [(0, .slice A xs.length c), (1, .slice A2 ys.length c2), (5, .int .i64 (i + 1))] ((True) ∧ (-9223372036854775808 ≤ (i + 1) ∧ (i + 1) < 9223372036854775808) ∧ (True) ∧ True) rfl (by kernel_rfl) ⟨trivial, (by omega), trivial, trivial⟩ ?_
        refine RunR.done (by kernel_rfl) ?_
        refine kloop_n _ [0, 1, 5] [0, 0] [(0, .slice A xs.length c), (1, .slice A2 ys.length c2), (5, .int .i64 (i + 1))] [vw A (nums .u8 xs), vw A2 (nums .u8 ys)] (by kernel_rfl) (by kernel_rfl) ?_ ⟨(i + 1), (by first | assumption | omega | (simp only [List.length_append, List.length_cons, List.length_nil, List.length_set, List.length_replicate, List.length_take, List.length_drop]; omega) | (simp only [fits] at *; omega) | (simp only [List.length_append, List.length_cons, List.length_nil, List.length_set, List.length_replicate, List.length_take, List.length_drop] at *; omega) | (simp; done) | decide), (by first | assumption | omega | (simp only [List.length_append, List.length_cons, List.length_nil, List.length_set, List.length_replicate, List.length_take, List.length_drop]; omega) | (simp only [fits] at *; omega) | (simp only [List.length_append, List.length_cons, List.length_nil, List.length_set, List.length_replicate, List.length_take, List.length_drop] at *; omega) | (simp; done) | decide), (by rw [show (i + 1).toNat = i.toNat + 1 by omega]; exact (take_eq_succ (by omega) (by omega)).2 ⟨he, by omega⟩), rfl, (by first | rfl | simp only [List.length_set]), (by first | rfl | simp only [List.length_set])⟩
        show ((xs.length - (i + 1)).toNat : Nat) < ((xs.length - i).toNat : Nat)
        omega
    · skip
      refine RunC.exit ?_
      refine kseq_e ?_
      refine kloop_e ?_
      refine kblock_e ?_
      refine kseq_n ?_
      refine RunC.seq ?_
      refine RunC.region ?_
      refine RunR.sil hU [] 1 1 [4] [(4, .bool true)] ((True) ∧ True) rfl (by kernel_rfl) ⟨trivial, trivial⟩ ?_
      refine RunR.done (by kernel_rfl) ?_
      refine kseq_n ?_
      refine RunC.ret ?_
      refine kret_r [.bool true] [] [] ⟨rfl, trivial⟩ (by kernel_rfl) rfl ⟨(by first | rfl | (exact congrArg Value.bool (decide_eq_true (eq_of_take (by omega) (by omega) he)).symm)), (by first | rfl | (exact congrArg Value.bool (decide_eq_true (eq_of_take (by omega) (by omega) he)).symm))⟩

theorem sl_Chunk3_it (A : Option Addr) (c : Nat) (xs : List Int) (b1 : Nat) (b2 : Nat) (hx : In .u8 xs) (hn : xs.length ≤ 140737488351232) (hlc : xs.length ≤ c) :
    IterS Tryd.prog 38 [.pointer (some ⟨b1, 0, none⟩), .pointer (some ⟨b2, 0, none⟩)] ((xs.length + 2) / 3) (fun i_ => [.slice (subBase A (3 * i_) (3 * i_ + (chunk 3 xs i_).length) 1) ((chunk 3 xs i_).length) ((chunk 3 xs i_).length)]) (fun i_ => [vw (subBase A (3 * i_) (3 * i_ + (chunk 3 xs i_).length) 1) (nums .u8 (chunk 3 xs i_))]) [blk b1 22 [.slice A xs.length c], blk b2 3 [.int .i64 3]] [vw A (nums .u8 xs)] := by
  intro l B Sx S hB hSx hS hY
  refine CallsS.enter hU Tryd.f38 _ [] 31 Tryd.func38 rfl (by decide) rfl rfl (by kernel_rfl) fun w0 W => ?_
  refine RunC.only [0, 0, 0, 0, 0] [S 0, blk b1 22 [.slice A xs.length c], blk b2 3 [.int .i64 3], B, vw A (nums .u8 xs)] (by kernel_rfl) ?_
  refine RunC.know (p := 0 < xs.length → Option.isSome A = true) (fun _ _ w hs => vw_some hs 4 rfl (by first | (simp [nums_length]; done) | exact dosV_len _ | exact bls_len _ | exact chV_len _)) (fun hA1 => ?_)
  refine RunC.seq ?_
  refine RunC.region ?_
  refine RunR.sil hU [] 1 1 [0, 1, 2, 4] [(0, .func (.yield l) #[] #[]), (1, .pointer (some ⟨b1, 0, none⟩)), (2, .pointer (some ⟨b2, 0, none⟩)), (4, .int .i64 0)] ((True) ∧ True) rfl (by kernel_rfl) ⟨trivial, trivial⟩ ?_
  refine RunR.done (by kernel_rfl) ?_
  refine kseq_n ?_
  refine RunC.block ?_
  refine RunC.env [0, 1, 2, 4] [(0, .func (.yield l) #[] #[]), (1, .pointer (some ⟨b1, 0, none⟩)), (2, .pointer (some ⟨b2, 0, none⟩)), (4, .int .i64 0)] (by kernel_rfl) ?_
  refine RunC.only [0, 0, 0, 0, 0] [S 0, blk b1 22 [.slice A xs.length c], blk b2 3 [.int .i64 3], B, vw A (nums .u8 xs)] (by kernel_rfl) ?_
  refine RunC.loop (σ := Nat) (fun n_ t_ D_ => ∃ (i : Int) (q : Nat), (i = 3 * (q : Int)) ∧ (q ≤ (xs.length + 2) / 3) ∧ n_ = ((xs.length + 3 - i).toNat : Nat) ∧ t_ = [(0, .func (.yield l) #[] #[]), (1, .pointer (some ⟨b1, 0, none⟩)), (2, .pointer (some ⟨b2, 0, none⟩)), (4, .int .i64 i)] ∧ D_ = [S q, blk b1 22 [.slice A xs.length c], blk b2 3 [.int .i64 3], B, vw A (nums .u8 xs)]) id _ ⟨0, 0, (by first | assumption | omega | (simp only [List.length_append, List.length_cons, List.length_nil, List.length_set, List.length_replicate, List.length_take, List.length_drop]; omega) | (simp only [fits] at *; omega) | (simp only [List.length_append, List.length_cons, List.length_nil, List.length_set, List.length_replicate, List.length_take, List.length_drop] at *; omega) | (simp; done) | decide), (by first | assumption | omega | (simp only [List.length_append, List.length_cons, List.length_nil, List.length_set, List.length_replicate, List.length_take, List.length_drop]; omega) | (simp only [fits] at *; omega) | (simp only [List.length_append, List.length_cons, List.length_nil, List.length_set, List.length_replicate, List.length_take, List.length_drop] at *; omega) | (simp; done) | decide), rfl, rfl, rfl⟩ ?_
  rintro n_ _ _ ⟨i, q, hi, hq, rfl, rfl, rfl⟩
  refine RunC.seq ?_
  refine RunC.seq ?_
  refine RunC.region ?_
  refine RunR.sil hU [] 1 1 [0, 1, 2, 4, 6] [(0, .func (.yield l) #[] #[]), (1, .pointer (some ⟨b1, 0, none⟩)), (2, .pointer (some ⟨b2, 0, none⟩)), (4, .int .i64 i), (6, .int .i64 i)] ((True) ∧ True) rfl (by kernel_rfl) ⟨trivial, trivial⟩ ?_
  refine RunR.step (dst := some 7) (op := .load 22 (.tmp 1)) (by kernel_rfl) (Step.load_blk hU 1 b1 (0) 22 [.slice A xs.length c] (.slice A xs.length c) (by kernel_rfl) (by kernel_rfl) (by kernel_rfl) (by kernel_rfl) ?_)
  refine RunR.sil hU [] 2 4 [0, 1, 2, 4, 9] [(0, .func (.yield l) #[] #[]), (1, .pointer (some ⟨b1, 0, none⟩)), (2, .pointer (some ⟨b2, 0, none⟩)), (4, .int .i64 i), (9, .bool (decide (i < ((xs.length : Nat) : Int))))] ((True) ∧ (True) ∧ True) rfl (by kernel_rfl) ⟨trivial, trivial, trivial⟩ ?_
  refine RunR.done (by kernel_rfl) ?_
  refine kseq_n ?_
  refine RunC.condp (i < ((xs.length : Nat) : Int)) (by kernel_rfl) (fun h2 => ?_) (fun h2 => ?_)
  · skip
    refine RunC.skip ?_
    refine kseq_n ?_
    refine RunC.seq ?_
    refine RunC.block ?_
    refine RunC.seq ?_
    refine RunC.regionU hU 7 [blk b2 3 [.int .i64 3], blk b1 22 [.slice A xs.length c]] [2, 1] [5, 6] (bm 7 0) (by kernel_rfl) (by kernel_rfl) (by kernel_rfl) ?_
    refine RunU.read 0 (bm 7 1) 13 (.load 3 (.tmp 2)) (.int .i64 3) [2, 1] (by kernel_rfl) (Reads.load_blk hU 0 b2 (0) 3 [.int .i64 3] (.int .i64 3) (by kernel_rfl) (by kernel_rfl) (by kernel_rfl)) (by kernel_rfl) (by kernel_rfl) (by kernel_rfl) (by kernel_rfl) (fun _ _ _ h => h) ?_
    refine RunU.read 1 (bm 7 3) 14 (.load 22 (.tmp 1)) (.slice A xs.length c) [2, 1] (by kernel_rfl) (Reads.load_blk hU 1 b1 (0) 22 [.slice A xs.length c] (.slice A xs.length c) (by kernel_rfl) (by kernel_rfl) (by kernel_rfl)) (by kernel_rfl) (by kernel_rfl) (by kernel_rfl) (by kernel_rfl) (fun _ _ _ h => h) ?_
    refine RunU.sil hU false 2 (bm 7 7) 15 (.int .i64 i) (True) (by kernel_rfl) trivial (by kernel_rfl) (by kernel_rfl) (fun _ _ _ h => h) ?_
    refine RunU.sil hU false 3 (bm 7 15) 16 (.slice (subBase A ((i).toNat) c 1) (xs.length - ((i).toNat)) (c - ((i).toNat))) (0 ≤ i ∧ i ≤ ((xs.length : Nat) : Int)) (by kernel_rfl) (by omega) (by kernel_rfl) (by kernel_rfl) (fun _ _ _ h => h) ?_
    obtain ⟨zs3, hz4⟩ : ∃ z : List Int, z = (xs.drop ((i).toNat)).take (xs.length - ((i).toNat)) := ⟨_, rfl⟩
    have hl5 : zs3.length = xs.length - ((i).toNat) := by rw [hz4, List.length_take, List.length_drop]; omega
    have hB7_t : Tells (vw A (nums .u8 xs)) (subBase A ((i).toNat) c 1) (nums .u8 zs3) := by rw [hz4]; exact tells_sub_nums (tells_vw _ _) _ _ _ (by omega) (by omega)
    have hA8 : 0 < zs3.length → Option.isSome (subBase A ((i).toNat) c 1) = true := fun h => part_some (hA1 (by omega)) _ _ _
    refine RunU.env [0, 1, 2, 4, 9, 13, 14, 15, 16] [(0, .func (.yield l) #[] #[]), (1, .pointer (some ⟨b1, 0, none⟩)), (2, .pointer (some ⟨b2, 0, none⟩)), (4, .int .i64 i), (9, .bool (decide (i < ((xs.length : Nat) : Int)))), (13, .int .i64 3), (14, .slice A xs.length c), (15, .int .i64 i), (16, .slice (subBase A ((i).toNat) c 1) (xs.length - ((i).toNat)) (c - ((i).toNat)))] (by kernel_rfl) ?_
    refine RunU.enveq [(0, .func (.yield l) #[] #[]), (1, .pointer (some ⟨b1, 0, none⟩)), (2, .pointer (some ⟨b2, 0, none⟩)), (4, .int .i64 i), (9, .bool (decide (i < ((xs.length : Nat) : Int)))), (13, .int .i64 3), (14, .slice A xs.length c), (15, .int .i64 i), (16, .slice (subBase A ((i).toNat) c 1) zs3.length (c - ((i).toNat)))] (by rw [hl5]) ?_
    have hr9 : In .u8 zs3 := by rw [hz4]; exact (hx.drop _).take _
    refine RunU.sil hU false 4 (bm 7 31) 17 (.int .i64 ((zs3.length : Nat) : Int)) (True) (by kernel_rfl) trivial (by kernel_rfl) (by kernel_rfl) (fun _ _ _ h => h) ?_
    have hm10 : ((if ((zs3.length : Nat) : Int) < 3 then ((zs3.length : Nat) : Int) else 3) = (3 : Int) ∨ (if ((zs3.length : Nat) : Int) < 3 then ((zs3.length : Nat) : Int) else 3) = ((zs3.length : Nat) : Int)) ∧ (if ((zs3.length : Nat) : Int) < 3 then ((zs3.length : Nat) : Int) else 3) ≤ (3 : Int) ∧ (if ((zs3.length : Nat) : Int) < 3 then ((zs3.length : Nat) : Int) else 3) ≤ ((zs3.length : Nat) : Int) := by split <;> omega
    refine RunU.sil hU false 5 (bm 7 63) 18 (.int .i64 (if ((zs3.length : Nat) : Int) < 3 then ((zs3.length : Nat) : Int) else 3)) (True) (by kernel_rfl) trivial (by kernel_rfl) (by kernel_rfl) (fun _ _ _ h => h) ?_
    refine RunU.sil hU false 6 (bm 7 127) 5 (.int .i64 (if ((zs3.length : Nat) : Int) < 3 then ((zs3.length : Nat) : Int) else 3)) (True) (by kernel_rfl) trivial (by kernel_rfl) (by kernel_rfl) (fun _ _ _ h => h) ?_
    refine RunU.env [0, 1, 2, 4, 5] [(0, .func (.yield l) #[] #[]), (1, .pointer (some ⟨b1, 0, none⟩)), (2, .pointer (some ⟨b2, 0, none⟩)), (4, .int .i64 i), (5, .int .i64 (if ((zs3.length : Nat) : Int) < 3 then ((zs3.length : Nat) : Int) else 3))] (by kernel_rfl) ?_
    refine RunU.done (by kernel_rfl) ?_
    refine kseq_n ?_
    refine RunC.seq ?_
    refine RunC.region ?_
    refine RunR.sil hU [] 1 1 [0, 1, 2, 4, 5, 19] [(0, .func (.yield l) #[] #[]), (1, .pointer (some ⟨b1, 0, none⟩)), (2, .pointer (some ⟨b2, 0, none⟩)), (4, .int .i64 i), (5, .int .i64 (if ((zs3.length : Nat) : Int) < 3 then ((zs3.length : Nat) : Int) else 3)), (19, .func (.yield l) #[] #[])] ((True) ∧ True) rfl (by kernel_rfl) ⟨trivial, trivial⟩ ?_
    refine RunR.step (dst := some 20) (op := .load 22 (.tmp 1)) (by kernel_rfl) (Step.load_blk hU 1 b1 (0) 22 [.slice A xs.length c] (.slice A xs.length c) (by kernel_rfl) (by kernel_rfl) (by kernel_rfl) (by kernel_rfl) ?_)
    refine RunR.sil hU [5, 8] 8 10 [0, 1, 2, 4, 19, 28] [(0, .func (.yield l) #[] #[]), (1, .pointer (some ⟨b1, 0, none⟩)), (2, .pointer (some ⟨b2, 0, none⟩)), (4, .int .i64 i), (19, .func (.yield l) #[] #[]), (28, .slice (subBase A ((i).toNat) ((i + (if ((zs3.length : Nat) : Int) < 3 then ((zs3.length : Nat) : Int) else 3)).toNat) 1) (((i + (if ((zs3.length : Nat) : Int) < 3 then ((zs3.length : Nat) : Int) else 3)).toNat) - ((i).toNat)) (((i + (if ((zs3.length : Nat) : Int) < 3 then ((zs3.length : Nat) : Int) else 3)).toNat) - ((i).toNat)))] ((True) ∧ (True) ∧ (True) ∧ (-9223372036854775808 ≤ (i + (if ((zs3.length : Nat) : Int) < 3 then ((zs3.length : Nat) : Int) else 3)) ∧ (i + (if ((zs3.length : Nat) : Int) < 3 then ((zs3.length : Nat) : Int) else 3)) < 9223372036854775808) ∧ (True) ∧ (True) ∧ (-9223372036854775808 ≤ (i + (if ((zs3.length : Nat) : Int) < 3 then ((zs3.length : Nat) : Int) else 3)) ∧ (i + (if ((zs3.length : Nat) : Int) < 3 then ((zs3.length : Nat) : Int) else 3)) < 9223372036854775808) ∧ (0 ≤ i ∧ i ≤ (i + (if ((zs3.length : Nat) : Int) < 3 then ((zs3.length : Nat) : Int) else 3)) ∧ (i + (if ((zs3.length : Nat) : Int) < 3 then ((zs3.length : Nat) : Int) else 3)) ≤ (i + (if ((zs3.length : Nat) : Int) < 3 then ((zs3.length : Nat) : Int) else 3)) ∧ (i + (if ((zs3.length : Nat) : Int) < 3 then ((zs3.length : Nat) : Int) else 3)) ≤ ((c : Nat) : Int)) ∧ True) rfl (by kernel_rfl) ⟨trivial, trivial, trivial, (by omega), trivial, trivial, (by omega), (by omega), trivial⟩ ?_
    obtain ⟨zs11, hz12⟩ : ∃ z : List Int, z = (xs.drop ((i).toNat)).take (((i + (if ((zs3.length : Nat) : Int) < 3 then ((zs3.length : Nat) : Int) else 3)).toNat) - ((i).toNat)) := ⟨_, rfl⟩
    have hl13 : zs11.length = ((i + (if ((zs3.length : Nat) : Int) < 3 then ((zs3.length : Nat) : Int) else 3)).toNat) - ((i).toNat) := by rw [hz12, List.length_take, List.length_drop]; omega
    have hB15_t : Tells (vw A (nums .u8 xs)) (subBase A ((i).toNat) ((i + (if ((zs3.length : Nat) : Int) < 3 then ((zs3.length : Nat) : Int) else 3)).toNat) 1) (nums .u8 zs11) := by rw [hz12]; exact tells_sub_nums (tells_vw _ _) _ _ _ (by omega) (by omega)
    have hA16 : 0 < zs11.length → Option.isSome (subBase A ((i).toNat) ((i + (if ((zs3.length : Nat) : Int) < 3 then ((zs3.length : Nat) : Int) else 3)).toNat) 1) = true := fun h => part_some (hA1 (by omega)) _ _ _
    refine RunR.env [0, 1, 2, 4, 19, 28] [(0, .func (.yield l) #[] #[]), (1, .pointer (some ⟨b1, 0, none⟩)), (2, .pointer (some ⟨b2, 0, none⟩)), (4, .int .i64 i), (19, .func (.yield l) #[] #[]), (28, .slice (subBase A ((i).toNat) ((i + (if ((zs3.length : Nat) : Int) < 3 then ((zs3.length : Nat) : Int) else 3)).toNat) 1) (((i + (if ((zs3.length : Nat) : Int) < 3 then ((zs3.length : Nat) : Int) else 3)).toNat) - ((i).toNat)) (((i + (if ((zs3.length : Nat) : Int) < 3 then ((zs3.length : Nat) : Int) else 3)).toNat) - ((i).toNat)))] (by kernel_rfl) ?_
    refine RunR.enveq [(0, .func (.yield l) #[] #[]), (1, .pointer (some ⟨b1, 0, none⟩)), (2, .pointer (some ⟨b2, 0, none⟩)), (4, .int .i64 i), (19, .func (.yield l) #[] #[]), (28, .slice (subBase A ((i).toNat) ((i + (if ((zs3.length : Nat) : Int) < 3 then ((zs3.length : Nat) : Int) else 3)).toNat) 1) zs11.length (((i + (if ((zs3.length : Nat) : Int) < 3 then ((zs3.length : Nat) : Int) else 3)).toNat) - ((i).toNat)))] (by rw [hl13]) ?_
    have hr17 : In .u8 zs11 := by rw [hz12]; exact (hx.drop _).take _
    have e1_ : (i).toNat = 3 * q := by omega
    have e2_ : (i + (if ((zs3.length : Nat) : Int) < 3 then ((zs3.length : Nat) : Int) else 3)).toNat = 3 * q + (chunk 3 xs q).length := by rw [chunk_len]; omega
    have e3_ : zs11 = (chunk 3 xs q) := by rw [hz12, e1_, e2_]; exact chunk_is _ _ _
    refine RunR.env [0, 1, 2, 4, 19, 28] [(0, .func (.yield l) #[] #[]), (1, .pointer (some ⟨b1, 0, none⟩)), (2, .pointer (some ⟨b2, 0, none⟩)), (4, .int .i64 i), (19, .func (.yield l) #[] #[]), (28, .slice (subBase A ((i).toNat) ((i + (if ((zs3.length : Nat) : Int) < 3 then ((zs3.length : Nat) : Int) else 3)).toNat) 1) zs11.length (((i + (if ((zs3.length : Nat) : Int) < 3 then ((zs3.length : Nat) : Int) else 3)).toNat) - ((i).toNat)))] (by kernel_rfl) ?_
    refine RunR.enveq [(0, .func (.yield l) #[] #[]), (1, .pointer (some ⟨b1, 0, none⟩)), (2, .pointer (some ⟨b2, 0, none⟩)), (4, .int .i64 i), (19, .func (.yield l) #[] #[]), (28, .slice (subBase A (3 * q) (3 * q + (chunk 3 xs q).length) 1) ((chunk 3 xs q).length) ((chunk 3 xs q).length))] (by rw [e3_, e1_, e2_, Nat.add_sub_cancel_left]) ?_
    refine RunR.yield (d := some 29) (c := (.tmp 19)) (os_ := #[.tmp 28]) (ts := #[22]) l [.slice (subBase A (3 * q) (3 * q + (chunk 3 xs q).length) 1) ((chunk 3 xs q).length) ((chunk 3 xs q).length)] (by kernel_rfl) (by kernel_rfl) (by kernel_rfl) (by kernel_rfl) [S q] [B, vw (subBase A (3 * q) (3 * q + (chunk 3 xs q).length) 1) (nums .u8 (chunk 3 xs q))] [blk b1 22 [.slice A xs.length c], blk b2 3 [.int .i64 3], B, vw A (nums .u8 xs)] (hY q (by omega)) [0] (by kernel_rfl) (((Lend.nil _).tells 3 (vw A (nums .u8 xs)) (subBase A (3 * q) (3 * q + (chunk 3 xs q).length) 1) (nums .u8 (chunk 3 xs q)) (by kernel_rfl) ((by have h_ := hB15_t; rw [e3_, e1_, e2_] at h_; exact h_))).same 2 B (by kernel_rfl) hB) ?_
    rintro _ _ (⟨rfl, rfl⟩ | ⟨rfl, rfl⟩)
    · skip
      refine RunR.sil hU [] 1 12 [0, 1, 2, 4, 30] [(0, .func (.yield l) #[] #[]), (1, .pointer (some ⟨b1, 0, none⟩)), (2, .pointer (some ⟨b2, 0, none⟩)), (4, .int .i64 i), (30, .bool false)] ((True) ∧ True) rfl (by kernel_rfl) ⟨trivial, trivial⟩ ?_
      refine RunR.done (by kernel_rfl) ?_
      refine kseq_n ?_
      refine RunC.cond (b := false) (by kernel_rfl) (fun h => by cases h) (fun _ => ?_)
      refine RunC.skip ?_
      refine kblock_n ?_
      refine kseq_n ?_
      refine RunC.region ?_
      refine RunR.sil hU [] 1 1 [0, 1, 2, 4, 10] [(0, .func (.yield l) #[] #[]), (1, .pointer (some ⟨b1, 0, none⟩)), (2, .pointer (some ⟨b2, 0, none⟩)), (4, .int .i64 i), (10, .int .i64 i)] ((True) ∧ True) rfl (by kernel_rfl) ⟨trivial, trivial⟩ ?_
      refine RunR.step (dst := some 11) (op := .load 3 (.tmp 2)) (by kernel_rfl) (Step.load_blk hU 2 b2 (0) 3 [.int .i64 3] (.int .i64 3) (by kernel_rfl) (by kernel_rfl) (by kernel_rfl) (by kernel_rfl) ?_)
      refine RunR.sil hU [2] 2 4 [0, 1, 2, 4] [(0, .func (.yield l) #[] #[]), (1, .pointer (some ⟨b1, 0, none⟩)), (2, .pointer (some ⟨b2, 0, none⟩)), (4, .int .i64 (i + 3))] ((-9223372036854775808 ≤ (i + 3) ∧ (i + 3) < 9223372036854775808) ∧ (True) ∧ True) rfl (by kernel_rfl) ⟨(by omega), trivial, trivial⟩ ?_
      refine RunR.done (by kernel_rfl) ?_
      refine kloop_n _ [0, 1, 2, 4] [0, 0, 0, 0, 0] [(0, .func (.yield l) #[] #[]), (1, .pointer (some ⟨b1, 0, none⟩)), (2, .pointer (some ⟨b2, 0, none⟩)), (4, .int .i64 (i + 3))] [S (q + 1), blk b1 22 [.slice A xs.length c], blk b2 3 [.int .i64 3], B, vw A (nums .u8 xs)] (by kernel_rfl) (by kernel_rfl) ?_ ⟨(i + 3), (q + 1), (by first | assumption | omega | (simp only [List.length_append, List.length_cons, List.length_nil, List.length_set, List.length_replicate, List.length_take, List.length_drop]; omega) | (simp only [fits] at *; omega) | (simp only [List.length_append, List.length_cons, List.length_nil, List.length_set, List.length_replicate, List.length_take, List.length_drop] at *; omega) | (simp; done) | decide), (by first | assumption | omega | (simp only [List.length_append, List.length_cons, List.length_nil, List.length_set, List.length_replicate, List.length_take, List.length_drop]; omega) | (simp only [fits] at *; omega) | (simp only [List.length_append, List.length_cons, List.length_nil, List.length_set, List.length_replicate, List.length_take, List.length_drop] at *; omega) | (simp; done) | decide), rfl, (by first | rfl | simp only [List.length_set]), (by first | rfl | simp only [List.length_set])⟩
      show ((xs.length + 3 - (i + 3)).toNat : Nat) < ((xs.length + 3 - i).toNat : Nat)
      omega
    · skip
      refine RunR.sil hU [] 1 12 [0, 1, 2, 4, 30] [(0, .func (.yield l) #[] #[]), (1, .pointer (some ⟨b1, 0, none⟩)), (2, .pointer (some ⟨b2, 0, none⟩)), (4, .int .i64 i), (30, .bool true)] ((True) ∧ True) rfl (by kernel_rfl) ⟨trivial, trivial⟩ ?_
      refine RunR.done (by kernel_rfl) ?_
      refine kseq_n ?_
      refine RunC.cond (b := true) (by kernel_rfl) (fun _ => ?_) (fun h => by cases h)
      refine RunC.ret ?_
      refine kblock_r ?_
      refine kseq_r ?_
      refine kloop_r ?_
      refine kblock_r ?_
      refine kret_r [] [0] [Sx] trivial (by kernel_rfl) (by simp [hSx]) (.inr rfl)
  · skip
    refine RunC.exit ?_
    refine kseq_e ?_
    refine kloop_e ?_
    refine kblock_e ?_
    refine kret_n [] [0] [S q] trivial (by kernel_rfl) (by simp [hS]) (.inl (by rw [show (q : Nat) = (xs.length + 2) / 3 by omega]))

theorem sl_Chunk_spec (A : Option Addr) (c : Nat) (n : Nat) :
    CallsS Tryd.prog 25 [.slice A n c, .int .i64 3] [] (fun r D => ∃ (b1 : Nat) (b2 : Nat), r = .func (.func 38) #[] #[.pointer (some ⟨b1, 0, none⟩), .pointer (some ⟨b2, 0, none⟩)] ∧ D = [blk b1 22 [.slice A n c], blk b2 3 [.int .i64 3]]) := by
  refine CallsS.enter hU Tryd.f25 _ [.tmp 4] 9 Tryd.func25 rfl (by decide) rfl rfl (by kernel_rfl) fun w0 W => ?_
  refine RunC.seq ?_
  refine RunC.region ?_
  refine RunR.step (dst := some 2) (op := .box 22 (.tmp 0)) (by kernel_rfl) (Step.box (.slice A n c) (by kernel_rfl) (by kernel_rfl) (fun b1 => ?_))
  refine RunR.step (dst := some 3) (op := .box 3 (.tmp 1)) (by kernel_rfl) (Step.box (.int .i64 3) (by kernel_rfl) (by kernel_rfl) (fun b2 => ?_))
  refine RunR.sil hU [] 1 3 [2, 3, 4] [(2, .pointer (some ⟨b1, 0, none⟩)), (3, .pointer (some ⟨b2, 0, none⟩)), (4, .nilFunc)] ((True) ∧ True) rfl (by kernel_rfl) ⟨trivial, trivial⟩ ?_
  refine RunR.done (by kernel_rfl) ?_
  refine kseq_n ?_
  refine RunC.seq ?_
  refine RunC.seq ?_
  refine RunC.region ?_
  refine RunR.step (dst := some 5) (op := .load 3 (.tmp 3)) (by kernel_rfl) (Step.load_blk hU 0 b2 (0) 3 [.int .i64 3] (.int .i64 3) (by kernel_rfl) (by kernel_rfl) (by kernel_rfl) (by kernel_rfl) ?_)
  refine RunR.sil hU [] 1 2 [2, 3, 4, 6] [(2, .pointer (some ⟨b1, 0, none⟩)), (3, .pointer (some ⟨b2, 0, none⟩)), (4, .nilFunc), (6, .bool false)] ((True) ∧ True) rfl (by kernel_rfl) ⟨trivial, trivial⟩ ?_
  refine RunR.done (by kernel_rfl) ?_
  refine kseq_n ?_
  refine RunC.cond (b := false) (by kernel_rfl) (fun h => by cases h) (fun _ => ?_)
  refine RunC.skip ?_
  refine kseq_n ?_
  refine RunC.seq ?_
  refine RunC.region ?_
  refine RunR.sil hU [] 2 2 [4] [(4, .func (.func 38) #[] #[.pointer (some ⟨b1, 0, none⟩), .pointer (some ⟨b2, 0, none⟩)])] ((True) ∧ (True) ∧ True) rfl (by kernel_rfl) ⟨trivial, trivial, trivial⟩ ?_
  refine RunR.done (by kernel_rfl) ?_
  refine kseq_n ?_
  refine RunC.ret ?_
  refine kret_r [.func (.func 38) #[] #[.pointer (some ⟨b1, 0, none⟩), .pointer (some ⟨b2, 0, none⟩)]] [1, 0] [blk b1 22 [.slice A n c], blk b2 3 [.int .i64 3]] ⟨rfl, trivial⟩ (by kernel_rfl) rfl ⟨b1, b2, rfl, rfl⟩
end Go.Proofs.YtjhinpmnpdgadaaDoor.X1
