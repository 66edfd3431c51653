/- What these functions compute: a contract for each, walked through its code. -/
import Derived.Test.YtjhinpmnpdgadaaDoorZPure
import Derived.Test.YtjhinpmnpdgadaaDoorProg
import Derived.Test.YtjhinpmnpdgadaaDoorX1
import Derived.Test.YtjhinpmnpdgadaaDoorX2
import Derived.Test.YtjhinpmnpdgadaaDoorX3
namespace Go.Proofs.YtjhinpmnpdgadaaDoor.X4
open Go Go.Proofs.YtjhinpmnpdgadaaDoor.SL Go.Proofs.YtjhinpmnpdgadaaDoor.SL.W Go.Proofs.YtjhinpmnpdgadaaDoor.SL.Z Go.Proofs.YtjhinpmnpdgadaaDoor.X1 Go.Proofs.YtjhinpmnpdgadaaDoor.X2 Go.Proofs.YtjhinpmnpdgadaaDoor.X3
set_option linter.unusedVariables false
set_option linter.unusedSimpArgs false
set_option maxRecDepth 100000
set_option maxHeartbeats 40000000
def U : Tab where
  und := [(3, .int .i64), (9, .string)]
  fld := []
  sz := [(3, 1), (9, 1)]
  ti := [(3, (1, 8, .int .i64 0)), (9, (1, 16, .string ⟨#[]⟩))]
  bld := []

theorem hU : U.OK Tryd.prog where
  und := by
    intro p hp
    simp only [U, List.mem_cons, List.not_mem_nil, or_false] at hp
    rcases hp with rfl | rfl
    · exact Tryd.underlying3
    · exact Tryd.underlying9
  fld := by
    intro p hp; cases hp
  sz := by
    intro p hp
    simp only [U, List.mem_cons, List.not_mem_nil, or_false] at hp
    rcases hp with rfl | rfl
    · exact ⟨Tryd.prog.types[3]!, by kernel_rfl, by kernel_rfl⟩
    · exact ⟨Tryd.prog.types[9]!, by kernel_rfl, by kernel_rfl⟩
  ti := by
    intro p hp
    simp only [U, List.mem_cons, List.not_mem_nil, or_false] at hp
    rcases hp with rfl | rfl
    · exact ⟨Tryd.prog.types[3]!, by kernel_rfl, by kernel_rfl, by kernel_rfl, by kernel_rfl⟩
    · exact ⟨Tryd.prog.types[9]!, by kernel_rfl, by kernel_rfl, by kernel_rfl, by kernel_rfl⟩
  bld := by
    intro p hp; cases hp
  mixed := by kernel_rfl

theorem sl_Index_spec (s : ByteArray) (hsz : (s : ByteArray).size ≤ 140737488351232) :
    CallsS Tryd.prog 64 [.string s, .string (⟨#[47]⟩ : ByteArray)] [] (fun r D => r = .int .i64 (stk s) ∧ D = []) := by
  refine CallsS.enter hU Tryd.f64 _ [.tmp 4] 143 Tryd.func64 rfl (by decide) rfl rfl (by kernel_rfl) fun w0 W => ?_
  refine RunC.seq ?_
  refine RunC.region ?_
  refine RunR.sil hU [] 1 1 [0, 1, 4] [(0, .string s), (1, .string (⟨#[47]⟩ : ByteArray)), (4, .int .i64 0)] ((True) ∧ True) rfl (by kernel_rfl) ⟨trivial, trivial⟩ ?_
  refine RunR.done (by kernel_rfl) ?_
  refine kseq_n ?_
  refine RunC.seq ?_
  refine RunC.region ?_
  refine RunR.sil hU [] 3 3 [0, 1, 4, 5] [(0, .string s), (1, .string (⟨#[47]⟩ : ByteArray)), (4, .int .i64 0), (5, .int .i64 1)] ((True) ∧ (True) ∧ (True) ∧ True) rfl (by kernel_rfl) ⟨trivial, trivial, trivial, trivial⟩ ?_
  refine RunR.done (by kernel_rfl) ?_
  refine kseq_n ?_
  refine RunC.seq ?_
  refine RunC.block ?_
  refine RunC.seq ?_
  refine RunC.region ?_
  refine RunR.sil hU [] 8 8 [0, 1, 4, 5, 16] [(0, .string s), (1, .string (⟨#[47]⟩ : ByteArray)), (4, .int .i64 0), (5, .int .i64 1), (16, .bool (decide ((⟨#[47]⟩ : ByteArray) = s)))] ((True) ∧ (True) ∧ (True) ∧ (True) ∧ (True) ∧ (True) ∧ (True) ∧ (True) ∧ True) rfl (by kernel_rfl) ⟨trivial, trivial, trivial, trivial, trivial, trivial, trivial, trivial, trivial⟩ ?_
  refine RunR.done (by kernel_rfl) ?_
  refine kseq_n ?_
  refine RunC.condp ((⟨#[47]⟩ : ByteArray) = s) (by kernel_rfl) (fun h1 => ?_) (fun h1 => ?_)
  · skip
    refine RunC.seq ?_
    refine RunC.region ?_
    refine RunR.sil hU [] 1 1 [0, 1, 4, 5] [(0, .string s), (1, .string (⟨#[47]⟩ : ByteArray)), (4, .int .i64 0), (5, .int .i64 1)] ((True) ∧ True) rfl (by kernel_rfl) ⟨trivial, trivial⟩ ?_
    refine RunR.done (by kernel_rfl) ?_
    refine kseq_n ?_
    refine RunC.ret ?_
    refine kblock_r ?_
    refine kseq_r ?_
    refine kret_r [.int .i64 0] [] [] ⟨rfl, trivial⟩ (by kernel_rfl) rfl ⟨(by first | rfl | (exact congrArg (Value.int .i64) (by subst_vars; exact stk_own.symm))), (by first | rfl | (exact congrArg (Value.int .i64) (by subst_vars; exact stk_own.symm)))⟩
  · skip
    refine RunC.seq ?_
    refine RunC.region ?_
    refine RunR.sil hU [] 3 3 [0, 1, 4, 5, 24] [(0, .string s), (1, .string (⟨#[47]⟩ : ByteArray)), (4, .int .i64 0), (5, .int .i64 1), (24, .bool true)] ((True) ∧ (True) ∧ (True) ∧ True) rfl (by kernel_rfl) ⟨trivial, trivial, trivial, trivial⟩ ?_
    refine RunR.done (by kernel_rfl) ?_
    refine kseq_n ?_
    refine RunC.cond (b := true) (by kernel_rfl) (fun _ => ?_) (fun h => by cases h)
    refine RunC.seq ?_
    refine RunC.region ?_
    refine RunR.sil hU [] 3 3 [0, 1, 4, 5, 27, 29] [(0, .string s), (1, .string (⟨#[47]⟩ : ByteArray)), (4, .int .i64 0), (5, .int .i64 1), (27, .string s), (29, .int .u8 47)] ((True) ∧ (True) ∧ (0 ≤ (0 : Int) ∧ (0 : Int) < ((⟨#[47]⟩ : ByteArray) : ByteArray).size) ∧ True) rfl (by kernel_rfl) ⟨trivial, trivial, (by decide), trivial⟩ ?_
    refine RunR.step (dst := some 30) (op := .call { callee := .value (.func 54), args := #[.tmp 27, .tmp 29], argTypes := #[9, 5] }) (by kernel_rfl) (Step.call 54 [.string s, .int .u8 47] (by kernel_rfl) (by kernel_rfl) [] [] [] (sl_IndexByte_spec s 47) [] (by kernel_rfl) (Lend.nil _) ?_)
    rintro _ _ ⟨rfl, rfl⟩
    refine RunR.sil hU [] 1 5 [0, 1, 4, 5] [(0, .string s), (1, .string (⟨#[47]⟩ : ByteArray)), (4, .int .i64 (Lib.indexByte (s : ByteArray).data.toList (47 : Int).toNat.toUInt8)), (5, .int .i64 1)] ((True) ∧ True) rfl (by kernel_rfl) ⟨trivial, trivial⟩ ?_
    refine RunR.done (by kernel_rfl) ?_
    refine kseq_n ?_
    refine RunC.ret ?_
    refine kblock_r ?_
    refine kseq_r ?_
    refine kret_r [.int .i64 (Lib.indexByte (s : ByteArray).data.toList (47 : Int).toNat.toUInt8)] [] [] ⟨rfl, trivial⟩ (by kernel_rfl) rfl ⟨rfl, rfl⟩

theorem s_Index_spec (s : ByteArray) (hsz : (s : ByteArray).size ≤ 140737488351232) :
    CallsS Tryd.prog 57 [.string s, .string (⟨#[47]⟩ : ByteArray)] [] (fun r D => r = .int .i64 (stk s) ∧ D = [] ∧ (-1 ≤ stk s ∧ stk s < ((s : ByteArray).size : Int))) := by
  refine CallsS.enter hU Tryd.f57 _ [.tmp 4] 8 Tryd.func57 rfl (by decide) rfl rfl (by kernel_rfl) fun w0 W => ?_
  refine RunC.seq ?_
  refine RunC.region ?_
  refine RunR.sil hU [] 1 1 [0, 1, 4] [(0, .string s), (1, .string (⟨#[47]⟩ : ByteArray)), (4, .int .i64 0)] ((True) ∧ True) rfl (by kernel_rfl) ⟨trivial, trivial⟩ ?_
  refine RunR.done (by kernel_rfl) ?_
  refine kseq_n ?_
  refine RunC.seq ?_
  refine RunC.region ?_
  refine RunR.sil hU [] 2 2 [4, 5, 6] [(4, .int .i64 0), (5, .string s), (6, .string (⟨#[47]⟩ : ByteArray))] ((True) ∧ (True) ∧ True) rfl (by kernel_rfl) ⟨trivial, trivial, trivial⟩ ?_
  refine RunR.step (dst := some 7) (op := .call { callee := .value (.func 64), args := #[.tmp 5, .tmp 6], argTypes := #[9, 9] }) (by kernel_rfl) (Step.call 64 [.string s, .string (⟨#[47]⟩ : ByteArray)] (by kernel_rfl) (by kernel_rfl) [] [] [] (sl_Index_spec s (by first | assumption | omega | (simp only [List.length_append, List.length_cons, List.length_nil, List.length_set, List.length_replicate, List.length_take, List.length_drop]; omega) | (simp only [fits] at *; omega) | (simp only [List.length_append, List.length_cons, List.length_nil, List.length_set, List.length_replicate, List.length_take, List.length_drop] at *; omega) | (simp; done) | decide)) [] (by kernel_rfl) (Lend.nil _) ?_)
  rintro _ _ ⟨rfl, rfl⟩
  refine RunR.sil hU [] 1 4 [4] [(4, .int .i64 (stk s))] ((True) ∧ True) rfl (by kernel_rfl) ⟨trivial, trivial⟩ ?_
  refine RunR.done (by kernel_rfl) ?_
  refine kseq_n ?_
  refine RunC.ret ?_
  refine kret_r [.int .i64 (stk s)] [] [] ⟨rfl, trivial⟩ (by kernel_rfl) rfl ⟨rfl, rfl, (by exact stk_bd s)⟩

theorem s_cut_it (s : ByteArray) (b1 : Nat) (b2 : Nat) (b3 : Nat) (hsz : (s : ByteArray).size ≤ 140737488351232) :
    IterS Tryd.prog 55 [.pointer (some ⟨b1, 0, none⟩), .pointer (some ⟨b2, 0, none⟩), .pointer (some ⟨b3, 0, none⟩)] ((pieces (sb s)).length) (fun i_ => [.string (pieceS s i_)]) (fun i_ => []) [blk b1 9 [.string (⟨#[47]⟩ : ByteArray)], blk b2 9 [.string s], blk b3 3 [.int .i64 0]] [] := by
  intro l B Sx S hB hSx hS hY
  refine CallsS.enter hU Tryd.f55 _ [] 52 Tryd.func55 rfl (by decide) rfl rfl (by kernel_rfl) fun w0 W => ?_
  refine RunC.only [0, 0, 0, 0, 0] [S 0, blk b1 9 [.string (⟨#[47]⟩ : ByteArray)], blk b2 9 [.string s], blk b3 3 [.int .i64 0], B] (by kernel_rfl) ?_
  refine RunC.seq ?_
  refine RunC.seq ?_
  refine RunC.region ?_
  refine RunR.step (dst := some 9) (op := .load 9 (.tmp 1)) (by kernel_rfl) (Step.load_blk hU 1 b1 (0) 9 [.string (⟨#[47]⟩ : ByteArray)] (.string (⟨#[47]⟩ : ByteArray)) (by kernel_rfl) (by kernel_rfl) (by kernel_rfl) (by kernel_rfl) ?_)
  refine RunR.sil hU [] 2 3 [0, 1, 2, 3, 11] [(0, .func (.yield l) #[] #[]), (1, .pointer (some ⟨b1, 0, none⟩)), (2, .pointer (some ⟨b2, 0, none⟩)), (3, .pointer (some ⟨b3, 0, none⟩)), (11, .bool false)] ((True) ∧ (True) ∧ True) rfl (by kernel_rfl) ⟨trivial, trivial, trivial⟩ ?_
  refine RunR.done (by kernel_rfl) ?_
  refine kseq_n ?_
  refine RunC.cond (b := false) (by kernel_rfl) (fun h => by cases h) (fun _ => ?_)
  refine RunC.skip ?_
  refine kseq_n ?_
  refine RunC.seq ?_
  refine RunC.block ?_
  refine RunC.env [0, 1, 2, 3] [(0, .func (.yield l) #[] #[]), (1, .pointer (some ⟨b1, 0, none⟩)), (2, .pointer (some ⟨b2, 0, none⟩)), (3, .pointer (some ⟨b3, 0, none⟩))] (by kernel_rfl) ?_
  refine RunC.only [0, 1, 0, 0, 0] [S 0, blk b2 9 [.string s], blk b1 9 [.string (⟨#[47]⟩ : ByteArray)], blk b3 3 [.int .i64 0], B] (by kernel_rfl) ?_
  refine RunC.loop (σ := Nat) (fun n_ t_ D_ => ∃ (r : ByteArray) (q : Nat), ((pieces (sb s)).drop q = pieces (sb r)) ∧ ((r : ByteArray).size ≤ 140737488351232) ∧ n_ = ((r : ByteArray).size : Nat) ∧ t_ = [(0, .func (.yield l) #[] #[]), (1, .pointer (some ⟨b1, 0, none⟩)), (2, .pointer (some ⟨b2, 0, none⟩)), (3, .pointer (some ⟨b3, 0, none⟩))] ∧ D_ = [S q, blk b2 9 [.string r], blk b1 9 [.string (⟨#[47]⟩ : ByteArray)], blk b3 3 [.int .i64 0], B]) id _ ⟨s, 0, (by rfl), (by first | assumption | omega | (simp only [List.length_append, List.length_cons, List.length_nil, List.length_set, List.length_replicate, List.length_take, List.length_drop]; omega) | (simp only [fits] at *; omega) | (simp only [List.length_append, List.length_cons, List.length_nil, List.length_set, List.length_replicate, List.length_take, List.length_drop] at *; omega) | (simp; done) | decide), rfl, rfl, rfl⟩ ?_
  rintro n_ _ _ ⟨r, q, hq, hrz, rfl, rfl, rfl⟩
  refine RunC.block ?_
  refine RunC.seq ?_
  refine RunC.region ?_
  refine RunR.step (dst := some 29) (op := .load 9 (.tmp 2)) (by kernel_rfl) (Step.load_blk hU 1 b2 (0) 9 [.string r] (.string r) (by kernel_rfl) (by kernel_rfl) (by kernel_rfl) (by kernel_rfl) ?_)
  refine RunR.step (dst := some 30) (op := .load 9 (.tmp 1)) (by kernel_rfl) (Step.load_blk hU 2 b1 (0) 9 [.string (⟨#[47]⟩ : ByteArray)] (.string (⟨#[47]⟩ : ByteArray)) (by kernel_rfl) (by kernel_rfl) (by kernel_rfl) (by kernel_rfl) ?_)
  refine RunR.step (dst := some 31) (op := .call { callee := .value (.func 57), args := #[.tmp 29, .tmp 30], argTypes := #[9, 9] }) (by kernel_rfl) (Step.call 57 [.string r, .string (⟨#[47]⟩ : ByteArray)] (by kernel_rfl) (by kernel_rfl) [] [] [S q, blk b2 9 [.string r], blk b1 9 [.string (⟨#[47]⟩ : ByteArray)], blk b3 3 [.int .i64 0], B] (s_Index_spec r (by first | assumption | omega | (simp only [List.length_append, List.length_cons, List.length_nil, List.length_set, List.length_replicate, List.length_take, List.length_drop]; omega) | (simp only [fits] at *; omega) | (simp only [List.length_append, List.length_cons, List.length_nil, List.length_set, List.length_replicate, List.length_take, List.length_drop] at *; omega) | (simp; done) | decide)) [] (by kernel_rfl) (Lend.nil _) ?_)
  rintro _ _ ⟨rfl, rfl, hp1⟩
  refine RunR.sil hU [] 1 4 [0, 1, 2, 3, 7] [(0, .func (.yield l) #[] #[]), (1, .pointer (some ⟨b1, 0, none⟩)), (2, .pointer (some ⟨b2, 0, none⟩)), (3, .pointer (some ⟨b3, 0, none⟩)), (7, .int .i64 (stk r))] ((True) ∧ True) rfl (by kernel_rfl) ⟨trivial, trivial⟩ ?_
  refine RunR.done (by kernel_rfl) ?_
  refine kseq_n ?_
  refine RunC.seq ?_
  refine RunC.seq ?_
  refine RunC.region ?_
  refine RunR.sil hU [] 2 2 [0, 1, 2, 3, 7, 33] [(0, .func (.yield l) #[] #[]), (1, .pointer (some ⟨b1, 0, none⟩)), (2, .pointer (some ⟨b2, 0, none⟩)), (3, .pointer (some ⟨b3, 0, none⟩)), (7, .int .i64 (stk r)), (33, .bool (decide ((stk r) < 0)))] ((True) ∧ (True) ∧ True) rfl (by kernel_rfl) ⟨trivial, trivial, trivial⟩ ?_
  refine RunR.done (by kernel_rfl) ?_
  refine kseq_n ?_
  refine RunC.condp ((stk r) < 0) (by kernel_rfl) (fun h2 => ?_) (fun h2 => ?_)
  · skip
    refine RunC.exit ?_
    refine kseq_e ?_
    refine kblock_o rfl ?_
    refine kloop_e ?_
    refine kblock_e ?_
    refine kseq_n ?_
    refine RunC.region ?_
    refine RunR.sil hU [] 1 1 [2, 49] [(2, .pointer (some ⟨b2, 0, none⟩)), (49, .func (.yield l) #[] #[])] ((True) ∧ True) rfl (by kernel_rfl) ⟨trivial, trivial⟩ ?_
    refine RunR.step (dst := some 50) (op := .load 9 (.tmp 2)) (by kernel_rfl) (Step.load_blk hU 1 b2 (0) 9 [.string r] (.string r) (by kernel_rfl) (by kernel_rfl) (by kernel_rfl) (by kernel_rfl) ?_)
    refine RunR.env [2, 49, 50] [(2, .pointer (some ⟨b2, 0, none⟩)), (49, .func (.yield l) #[] #[]), (50, .string r)] (by kernel_rfl) ?_
    refine RunR.enveq [(2, .pointer (some ⟨b2, 0, none⟩)), (49, .func (.yield l) #[] #[]), (50, .string (pieceS s q))] (by first | (have h_ := (cut_last hq (by assumption)).1; rw [← h_]) | (have h_ := (cut_next hq (by assumption)).1; rw [← h_, Int.add_zero])) ?_
    refine RunR.yield (d := some 51) (c := (.tmp 49)) (os_ := #[.tmp 50]) (ts := #[9]) l [.string (pieceS s q)] (by kernel_rfl) (by kernel_rfl) (by kernel_rfl) (by kernel_rfl) [S q] [B] [blk b2 9 [.string r], blk b1 9 [.string (⟨#[47]⟩ : ByteArray)], blk b3 3 [.int .i64 0], B] (hY q (by first | exact (cut_last hq (by assumption)).2.1 | exact (cut_next hq (by assumption)).2.2.1)) [0] (by kernel_rfl) ((Lend.nil _).same 3 B (by kernel_rfl) hB) ?_
    rintro _ _ (⟨rfl, rfl⟩ | ⟨rfl, rfl⟩)
    · skip
      refine RunR.done (by kernel_rfl) ?_
      refine kret_n [] [0] [S (q + 1)] trivial (by kernel_rfl) (by simp [hS]) (.inl (by rw [show (q + 1 : Nat) = (pieces (sb s)).length by exact (cut_last hq (by assumption)).2.2.symm]))
    · skip
      refine RunR.done (by kernel_rfl) ?_
      refine kret_n [] [0] [Sx] trivial (by kernel_rfl) (by simp [hSx]) (.inr rfl)
  · skip
    refine RunC.skip ?_
    refine kseq_n ?_
    refine RunC.seq ?_
    refine RunC.region ?_
    refine RunR.step (dst := some 34) (op := .load 9 (.tmp 2)) (by kernel_rfl) (Step.load_blk hU 1 b2 (0) 9 [.string r] (.string r) (by kernel_rfl) (by kernel_rfl) (by kernel_rfl) (by kernel_rfl) ?_)
    refine RunR.sil hU [] 1 2 [0, 1, 2, 3, 7, 34, 35] [(0, .func (.yield l) #[] #[]), (1, .pointer (some ⟨b1, 0, none⟩)), (2, .pointer (some ⟨b2, 0, none⟩)), (3, .pointer (some ⟨b3, 0, none⟩)), (7, .int .i64 (stk r)), (34, .string r), (35, .int .i64 (stk r))] ((True) ∧ True) rfl (by kernel_rfl) ⟨trivial, trivial⟩ ?_
    refine RunR.step (dst := some 36) (op := .load 3 (.tmp 3)) (by kernel_rfl) (Step.load_blk hU 3 b3 (0) 3 [.int .i64 0] (.int .i64 0) (by kernel_rfl) (by kernel_rfl) (by kernel_rfl) (by kernel_rfl) ?_)
    refine RunR.sil hU [3] 3 6 [0, 1, 2, 3, 7, 8] [(0, .func (.yield l) #[] #[]), (1, .pointer (some ⟨b1, 0, none⟩)), (2, .pointer (some ⟨b2, 0, none⟩)), (3, .pointer (some ⟨b3, 0, none⟩)), (7, .int .i64 (stk r)), (8, .string (ByteArray.extract r 0 (((stk r) + 0).toNat)))] ((-9223372036854775808 ≤ ((stk r) + 0) ∧ ((stk r) + 0) < 9223372036854775808) ∧ (0 ≤ ((stk r) + 0) ∧ ((stk r) + 0) ≤ (r : ByteArray).size) ∧ (True) ∧ True) rfl (by kernel_rfl) ⟨(by omega), (by omega), trivial, trivial⟩ ?_
    refine RunR.done (by kernel_rfl) ?_
    refine kseq_n ?_
    refine RunC.seq ?_
    refine RunC.seq ?_
    refine RunC.region ?_
    refine RunR.sil hU [] 2 2 [0, 1, 2, 3, 7, 39, 40] [(0, .func (.yield l) #[] #[]), (1, .pointer (some ⟨b1, 0, none⟩)), (2, .pointer (some ⟨b2, 0, none⟩)), (3, .pointer (some ⟨b3, 0, none⟩)), (7, .int .i64 (stk r)), (39, .func (.yield l) #[] #[]), (40, .string (ByteArray.extract r 0 (((stk r) + 0).toNat)))] ((True) ∧ (True) ∧ True) rfl (by kernel_rfl) ⟨trivial, trivial, trivial⟩ ?_
    refine RunR.env [0, 1, 2, 3, 7, 39, 40] [(0, .func (.yield l) #[] #[]), (1, .pointer (some ⟨b1, 0, none⟩)), (2, .pointer (some ⟨b2, 0, none⟩)), (3, .pointer (some ⟨b3, 0, none⟩)), (7, .int .i64 (stk r)), (39, .func (.yield l) #[] #[]), (40, .string (ByteArray.extract r 0 (((stk r) + 0).toNat)))] (by kernel_rfl) ?_
    refine RunR.enveq [(0, .func (.yield l) #[] #[]), (1, .pointer (some ⟨b1, 0, none⟩)), (2, .pointer (some ⟨b2, 0, none⟩)), (3, .pointer (some ⟨b3, 0, none⟩)), (7, .int .i64 (stk r)), (39, .func (.yield l) #[] #[]), (40, .string (pieceS s q))] (by first | (have h_ := (cut_last hq (by assumption)).1; rw [← h_]) | (have h_ := (cut_next hq (by assumption)).1; rw [← h_, Int.add_zero])) ?_
    refine RunR.yield (d := some 41) (c := (.tmp 39)) (os_ := #[.tmp 40]) (ts := #[9]) l [.string (pieceS s q)] (by kernel_rfl) (by kernel_rfl) (by kernel_rfl) (by kernel_rfl) [S q] [B] [blk b2 9 [.string r], blk b1 9 [.string (⟨#[47]⟩ : ByteArray)], blk b3 3 [.int .i64 0], B] (hY q (by first | exact (cut_last hq (by assumption)).2.1 | exact (cut_next hq (by assumption)).2.2.1)) [0] (by kernel_rfl) ((Lend.nil _).same 3 B (by kernel_rfl) hB) ?_
    rintro _ _ (⟨rfl, rfl⟩ | ⟨rfl, rfl⟩)
    · skip
      refine RunR.sil hU [] 1 4 [0, 1, 2, 3, 7, 42] [(0, .func (.yield l) #[] #[]), (1, .pointer (some ⟨b1, 0, none⟩)), (2, .pointer (some ⟨b2, 0, none⟩)), (3, .pointer (some ⟨b3, 0, none⟩)), (7, .int .i64 (stk r)), (42, .bool false)] ((True) ∧ True) rfl (by kernel_rfl) ⟨trivial, trivial⟩ ?_
      refine RunR.done (by kernel_rfl) ?_
      refine kseq_n ?_
      refine RunC.cond (b := false) (by kernel_rfl) (fun h => by cases h) (fun _ => ?_)
      refine RunC.skip ?_
      refine kseq_n ?_
      refine RunC.region ?_
      refine RunR.step (dst := some 43) (op := .load 9 (.tmp 2)) (by kernel_rfl) (Step.load_blk hU 1 b2 (0) 9 [.string r] (.string r) (by kernel_rfl) (by kernel_rfl) (by kernel_rfl) (by kernel_rfl) ?_)
      refine RunR.sil hU [] 1 2 [0, 1, 2, 3, 43, 44] [(0, .func (.yield l) #[] #[]), (1, .pointer (some ⟨b1, 0, none⟩)), (2, .pointer (some ⟨b2, 0, none⟩)), (3, .pointer (some ⟨b3, 0, none⟩)), (43, .string r), (44, .int .i64 (stk r))] ((True) ∧ True) rfl (by kernel_rfl) ⟨trivial, trivial⟩ ?_
      refine RunR.step (dst := some 45) (op := .load 9 (.tmp 1)) (by kernel_rfl) (Step.load_blk hU 2 b1 (0) 9 [.string (⟨#[47]⟩ : ByteArray)] (.string (⟨#[47]⟩ : ByteArray)) (by kernel_rfl) (by kernel_rfl) (by kernel_rfl) (by kernel_rfl) ?_)
      refine RunR.sil hU [4] 3 6 [0, 1, 2, 3, 48] [(0, .func (.yield l) #[] #[]), (1, .pointer (some ⟨b1, 0, none⟩)), (2, .pointer (some ⟨b2, 0, none⟩)), (3, .pointer (some ⟨b3, 0, none⟩)), (48, .string (ByteArray.extract r (((stk r) + 1).toNat) ((r : ByteArray).size)))] ((True) ∧ (-9223372036854775808 ≤ ((stk r) + 1) ∧ ((stk r) + 1) < 9223372036854775808) ∧ (0 ≤ ((stk r) + 1) ∧ ((stk r) + 1) ≤ (r : ByteArray).size) ∧ True) rfl (by kernel_rfl) ⟨trivial, (by omega), (by omega), trivial⟩ ?_
      refine RunR.step (dst := none) (op := .store 9 (.tmp 2) (.tmp 48)) (by kernel_rfl) (Step.store_blk hU 1 b2 0 9 [.string r] (.string (ByteArray.extract r (((stk r) + 1).toNat) ((r : ByteArray).size))) (by kernel_rfl) (by kernel_rfl) (by kernel_rfl) 1 rfl [.string (ByteArray.extract r (((stk r) + 1).toNat) ((r : ByteArray).size))] (by kernel_rfl) rfl (by kernel_rfl) (by first | decide | simp) ?_)
      refine RunR.done (by kernel_rfl) ?_
      refine kblock_n ?_
      refine kloop_n _ [0, 1, 2, 3] [1, 0, 0, 0, 0] [(0, .func (.yield l) #[] #[]), (1, .pointer (some ⟨b1, 0, none⟩)), (2, .pointer (some ⟨b2, 0, none⟩)), (3, .pointer (some ⟨b3, 0, none⟩))] [S (q + 1), blk b2 9 [.string (ByteArray.extract r (((stk r) + 1).toNat) ((r : ByteArray).size))], blk b1 9 [.string (⟨#[47]⟩ : ByteArray)], blk b3 3 [.int .i64 0], B] (by kernel_rfl) (by kernel_rfl) ?_ ⟨(ByteArray.extract r (((stk r) + 1).toNat) ((r : ByteArray).size)), (q + 1), (by exact (cut_next hq (by assumption)).2.1), (by exact ext_bd (by assumption)), rfl, (by first | rfl | simp only [List.length_set]), (by first | rfl | simp only [List.length_set])⟩
      show (((ByteArray.extract r (((stk r) + 1).toNat) ((r : ByteArray).size)) : ByteArray).size : Nat) < ((r : ByteArray).size : Nat)
      exact ext_lt (by omega) (by omega)
    · skip
      refine RunR.sil hU [] 1 4 [0, 1, 2, 3, 7, 42] [(0, .func (.yield l) #[] #[]), (1, .pointer (some ⟨b1, 0, none⟩)), (2, .pointer (some ⟨b2, 0, none⟩)), (3, .pointer (some ⟨b3, 0, none⟩)), (7, .int .i64 (stk r)), (42, .bool true)] ((True) ∧ True) rfl (by kernel_rfl) ⟨trivial, trivial⟩ ?_
      refine RunR.done (by kernel_rfl) ?_
      refine kseq_n ?_
      refine RunC.cond (b := true) (by kernel_rfl) (fun _ => ?_) (fun h => by cases h)
      refine RunC.ret ?_
      refine kseq_r ?_
      refine kblock_r ?_
      refine kloop_r ?_
      refine kblock_r ?_
      refine kseq_r ?_
      refine kret_r [] [0] [Sx] trivial (by kernel_rfl) (by simp [hSx]) (.inr rfl)

theorem s_splitSeq_spec (s : ByteArray) :
    CallsS Tryd.prog 45 [.string s, .string (⟨#[47]⟩ : ByteArray), .int .i64 0] [] (fun r D => ∃ (b1 : Nat) (b2 : Nat) (b3 : Nat), r = .func (.func 55) #[] #[.pointer (some ⟨b1, 0, none⟩), .pointer (some ⟨b2, 0, none⟩), .pointer (some ⟨b3, 0, none⟩)] ∧ D = [blk b1 9 [.string (⟨#[47]⟩ : ByteArray)], blk b2 9 [.string s], blk b3 3 [.int .i64 0]]) := by
  refine CallsS.enter hU Tryd.f45 _ [.tmp 6] 8 Tryd.func45 rfl (by decide) rfl rfl (by kernel_rfl) fun w0 W => ?_
  refine RunC.seq ?_
  refine RunC.region ?_
  refine RunR.step (dst := some 3) (op := .box 9 (.tmp 0)) (by kernel_rfl) (Step.box (.string s) (by kernel_rfl) (by kernel_rfl) (fun b1 => ?_))
  refine RunR.step (dst := some 4) (op := .box 9 (.tmp 1)) (by kernel_rfl) (Step.box (.string (⟨#[47]⟩ : ByteArray)) (by kernel_rfl) (by kernel_rfl) (fun b2 => ?_))
  refine RunR.step (dst := some 5) (op := .box 3 (.tmp 2)) (by kernel_rfl) (Step.box (.int .i64 0) (by kernel_rfl) (by kernel_rfl) (fun b3 => ?_))
  refine RunR.sil hU [] 1 4 [3, 4, 5, 6] [(3, .pointer (some ⟨b1, 0, none⟩)), (4, .pointer (some ⟨b2, 0, none⟩)), (5, .pointer (some ⟨b3, 0, none⟩)), (6, .nilFunc)] ((True) ∧ True) rfl (by kernel_rfl) ⟨trivial, trivial⟩ ?_
  refine RunR.done (by kernel_rfl) ?_
  refine kseq_n ?_
  refine RunC.seq ?_
  refine RunC.region ?_
  refine RunR.sil hU [] 2 2 [6] [(6, .func (.func 55) #[] #[.pointer (some ⟨b2, 0, none⟩), .pointer (some ⟨b1, 0, none⟩), .pointer (some ⟨b3, 0, none⟩)])] ((True) ∧ (True) ∧ True) rfl (by kernel_rfl) ⟨trivial, trivial, trivial⟩ ?_
  refine RunR.done (by kernel_rfl) ?_
  refine kseq_n ?_
  refine RunC.ret ?_
  refine kret_r [.func (.func 55) #[] #[.pointer (some ⟨b2, 0, none⟩), .pointer (some ⟨b1, 0, none⟩), .pointer (some ⟨b3, 0, none⟩)]] [1, 1, 0] [blk b2 9 [.string (⟨#[47]⟩ : ByteArray)], blk b1 9 [.string s], blk b3 3 [.int .i64 0]] ⟨rfl, trivial⟩ (by kernel_rfl) rfl ⟨b2, b1, b3, rfl, rfl⟩

theorem s_SplitSeq_spec (s : ByteArray) :
    CallsS Tryd.prog 30 [.string s, .string (⟨#[47]⟩ : ByteArray)] [] (fun r D => ∃ (b1 : Nat) (b2 : Nat) (b3 : Nat), r = .func (.func 55) #[] #[.pointer (some ⟨b1, 0, none⟩), .pointer (some ⟨b2, 0, none⟩), .pointer (some ⟨b3, 0, none⟩)] ∧ D = [blk b1 9 [.string (⟨#[47]⟩ : ByteArray)], blk b2 9 [.string s], blk b3 3 [.int .i64 0]]) := by
  refine CallsS.enter hU Tryd.f30 _ [.tmp 4] 8 Tryd.func30 rfl (by decide) rfl rfl (by kernel_rfl) fun w0 W => ?_
  refine RunC.seq ?_
  refine RunC.region ?_
  refine RunR.sil hU [] 1 1 [0, 1, 4] [(0, .string s), (1, .string (⟨#[47]⟩ : ByteArray)), (4, .nilFunc)] ((True) ∧ True) rfl (by kernel_rfl) ⟨trivial, trivial⟩ ?_
  refine RunR.done (by kernel_rfl) ?_
  refine kseq_n ?_
  refine RunC.seq ?_
  refine RunC.region ?_
  refine RunR.sil hU [] 2 2 [4, 5, 6] [(4, .nilFunc), (5, .string s), (6, .string (⟨#[47]⟩ : ByteArray))] ((True) ∧ (True) ∧ True) rfl (by kernel_rfl) ⟨trivial, trivial, trivial⟩ ?_
  refine RunR.step (dst := some 7) (op := .call { callee := .value (.func 45), args := #[.tmp 5, .tmp 6, .const (.int .i64 0)], argTypes := #[9, 9, 3] }) (by kernel_rfl) (Step.call 45 [.string s, .string (⟨#[47]⟩ : ByteArray), .int .i64 0] (by kernel_rfl) (by kernel_rfl) [] [] [] (s_splitSeq_spec s) [] (by kernel_rfl) (Lend.nil _) ?_)
  rintro _ _ ⟨b11, b22, b33, rfl, rfl⟩
  refine RunR.sil hU [] 1 4 [4] [(4, .func (.func 55) #[] #[.pointer (some ⟨b11, 0, none⟩), .pointer (some ⟨b22, 0, none⟩), .pointer (some ⟨b33, 0, none⟩)])] ((True) ∧ True) rfl (by kernel_rfl) ⟨trivial, trivial⟩ ?_
  refine RunR.done (by kernel_rfl) ?_
  refine kseq_n ?_
  refine RunC.ret ?_
  refine kret_r [.func (.func 55) #[] #[.pointer (some ⟨b11, 0, none⟩), .pointer (some ⟨b22, 0, none⟩), .pointer (some ⟨b33, 0, none⟩)]] [0, 0, 0] [blk b11 9 [.string (⟨#[47]⟩ : ByteArray)], blk b22 9 [.string s], blk b33 3 [.int .i64 0]] ⟨rfl, trivial⟩ (by kernel_rfl) rfl ⟨b11, b22, b33, rfl, rfl⟩
end Go.Proofs.YtjhinpmnpdgadaaDoor.X4
