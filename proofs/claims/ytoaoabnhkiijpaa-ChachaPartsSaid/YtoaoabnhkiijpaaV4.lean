/- What these functions compute: a contract for each, walked through its code. -/
import Derived.Test.YtoaoabnhkiijpaaCPure
import Derived.Test.YtoaoabnhkiijpaaProg
import Derived.Test.YtoaoabnhkiijpaaV1
import Derived.Test.YtoaoabnhkiijpaaV2
import Derived.Test.YtoaoabnhkiijpaaV3
namespace Go.Proofs.Ytoaoabnhkiijpaa.V4
open Go Go.Proofs.Ytoaoabnhkiijpaa.SL Go.Proofs.Ytoaoabnhkiijpaa.SL.W Go.Proofs.Ytoaoabnhkiijpaa.SL.C Go.Proofs.Ytoaoabnhkiijpaa.V1 Go.Proofs.Ytoaoabnhkiijpaa.V2 Go.Proofs.Ytoaoabnhkiijpaa.V3
set_option linter.unusedVariables false
set_option linter.unusedSimpArgs false
set_option maxRecDepth 100000
set_option maxHeartbeats 40000000
def U : Tab where
  und := [(3, .int .i64), (5, .int .u8), (22, .slice 5), (23, .int .u32)]
  fld := []
  sz := [(3, 1), (5, 1), (22, 1), (23, 1)]
  ti := [(3, (1, 8, .int .i64 0)), (5, (1, 1, .int .u8 0)), (22, (1, 24, .slice none 0 0)), (23, (1, 4, .int .u32 0))]
  bld := []

theorem hU : U.OK Try.prog where
  und := by
    intro p hp
    simp only [U, List.mem_cons, List.not_mem_nil, or_false] at hp
    rcases hp with rfl | rfl | rfl | rfl
    · exact Try.underlying3
    · exact Try.underlying5
    · exact Try.underlying22
    · exact Try.underlying23
  fld := by
    intro p hp; cases hp
  sz := by
    intro p hp
    simp only [U, List.mem_cons, List.not_mem_nil, or_false] at hp
    rcases hp with rfl | rfl | rfl | rfl
    · exact ⟨Try.prog.types[3]!, by kernel_rfl, by kernel_rfl⟩
    · exact ⟨Try.prog.types[5]!, by kernel_rfl, by kernel_rfl⟩
    · exact ⟨Try.prog.types[22]!, by kernel_rfl, by kernel_rfl⟩
    · exact ⟨Try.prog.types[23]!, by kernel_rfl, by kernel_rfl⟩
  ti := by
    intro p hp
    simp only [U, List.mem_cons, List.not_mem_nil, or_false] at hp
    rcases hp with rfl | rfl | rfl | rfl
    · exact ⟨Try.prog.types[3]!, by kernel_rfl, by kernel_rfl, by kernel_rfl, by kernel_rfl⟩
    · exact ⟨Try.prog.types[5]!, by kernel_rfl, by kernel_rfl, by kernel_rfl, by kernel_rfl⟩
    · exact ⟨Try.prog.types[22]!, by kernel_rfl, by kernel_rfl, by kernel_rfl, by kernel_rfl⟩
    · exact ⟨Try.prog.types[23]!, by kernel_rfl, by kernel_rfl, by kernel_rfl, by kernel_rfl⟩
  bld := by
    intro p hp; cases hp
  mixed := by kernel_rfl

theorem c_may_spec (A : Option Addr) (c : Nat) (u : Nat) (A2 : Option Addr) (c2 : Nat) (v : Nat) :
    CallsS Try.prog 30 [.slice A u c, .slice A2 v c2] [] (fun r D => r = .bool (decide (u = 32 ∧ v = 12)) ∧ D = []) := by
  refine CallsS.enter hU Try.f30 _ [.tmp 4] 13 Try.func30 rfl (by decide) rfl rfl (by kernel_rfl) fun w0 W => ?_
  refine RunC.seq ?_
  refine RunC.region ?_
  refine RunR.sil hU [] 1 1 [0, 1, 4] [(0, .slice A u c), (1, .slice A2 v c2), (4, .bool false)] ((True) ∧ True) rfl (by kernel_rfl) ⟨trivial, trivial⟩ ?_
  refine RunR.done (by kernel_rfl) ?_
  refine kseq_n ?_
  refine RunC.seq ?_
  refine RunC.region ?_
  refine RunR.sil hU [] 4 4 [1, 4, 8] [(1, .slice A2 v c2), (4, .bool false), (8, .bool (decide (((u : Nat) : Int) = 32)))] ((True) ∧ (True) ∧ (True) ∧ (True) ∧ True) rfl (by kernel_rfl) ⟨trivial, trivial, trivial, trivial, trivial⟩ ?_
  refine RunR.env [1, 4, 8] [(1, .slice A2 v c2), (4, .bool false), (8, .bool (decide (((u : Nat) : Int) = 32)))] (by kernel_rfl) ?_
  by_cases h1 : ((u : Nat) : Int) = 32
  · skip
    refine RunR.enveq [(1, .slice A2 v c2), (4, .bool false), (8, .bool true)] (by rw [decide_eq_true h1]; try rfl) ?_
    refine RunR.sil hU [] 5 9 [4] [(4, .bool (decide (((v : Nat) : Int) = 12)))] ((True) ∧ (True) ∧ (True) ∧ (True) ∧ (True) ∧ True) rfl (by kernel_rfl) ⟨trivial, trivial, trivial, trivial, trivial, trivial⟩ ?_
    refine RunR.done (by kernel_rfl) ?_
    refine kseq_n ?_
    refine RunC.ret ?_
    refine kret_r [.bool (decide (((v : Nat) : Int) = 12))] [] [] ⟨rfl, trivial⟩ (by kernel_rfl) rfl ⟨(by first | rfl | (exact congrArg Value.bool (decide_eq_decide.2 (by omega)))), (by first | rfl | (exact congrArg Value.bool (decide_eq_decide.2 (by omega))))⟩
  · skip
    refine RunR.enveq [(1, .slice A2 v c2), (4, .bool false), (8, .bool false)] (by rw [decide_eq_false h1]; try rfl) ?_
    refine RunR.sil hU [] 5 9 [4] [(4, .bool false)] ((True) ∧ (True) ∧ True) rfl (by kernel_rfl) ⟨trivial, trivial, trivial⟩ ?_
    refine RunR.done (by kernel_rfl) ?_
    refine kseq_n ?_
    refine RunC.ret ?_
    refine kret_r [.bool false] [] [] ⟨rfl, trivial⟩ (by kernel_rfl) rfl ⟨(by first | rfl | (exact congrArg Value.bool (decide_eq_false (by omega)).symm)), (by first | rfl | (exact congrArg Value.bool (decide_eq_false (by omega)).symm))⟩

theorem c_Block_spec (A : Option Addr) (c : Nat) (xs : List Int) (A2 : Option Addr) (c2 : Nat) (ys : List Int) (n : Int) (l_xs : Nat) (l_ys : Nat) (hx : In .u8 xs) (hy : In .u8 ys) (hn : fits .u32 n) (hcx : xs.length ≤ c) (hcy : ys.length ≤ c2) (hl_xs : xs.length = l_xs) (hl_ys : ys.length = l_ys) :
    CallsS Try.prog 16 [.slice A l_xs c, .slice A2 l_ys c2, .int .u32 n] [vw A (nums .u8 xs), vw A2 (nums .u8 ys)] (fun r D => ∃ (A3 : Option Addr) (c3 : Nat) (zs : List Int) (e : Int), r = .tuple #[.slice A3 zs.length c3, .int .i64 e] ∧ D = [row 5 1 (.slice A3 zs.length c3) zs.length (nums .u8 zs)] ∧ ((xs.length = 32 ∧ ys.length = 12 ∧ e = 0 ∧ zs.length = 64) ∨ (¬ (xs.length = 32 ∧ ys.length = 12) ∧ e = 1 ∧ zs.length = 0)) ∧ (e = 0 → zs = block xs ys n) ∧ (In .u8 zs) ∧ (zs.length ≤ c3) ∧ (0 < zs.length → Option.isSome A3 = true)) := by
  subst hl_xs
  subst hl_ys
  refine CallsS.enter hU Try.f16 _ [.tmp 6, .tmp 7] 16 Try.func16 rfl (by decide) rfl rfl (by kernel_rfl) fun w0 W => ?_
  refine RunC.know (p := 0 < xs.length → Option.isSome A = true) (fun w hs => vw_some hs 0 rfl (by simp [nums_length])) (fun hA1 => ?_)
  refine RunC.know (p := 0 < ys.length → Option.isSome A2 = true) (fun w hs => vw_some hs 1 rfl (by simp [nums_length])) (fun hA2 => ?_)
  refine RunC.seq ?_
  refine RunC.region ?_
  refine RunR.sil hU [] 2 2 [0, 1, 2, 6, 7] [(0, .slice A xs.length c), (1, .slice A2 ys.length c2), (2, .int .u32 n), (6, .slice none 0 0), (7, .int .i64 0)] ((True) ∧ (True) ∧ True) rfl (by kernel_rfl) ⟨trivial, trivial, trivial⟩ ?_
  refine RunR.done (by kernel_rfl) ?_
  refine kseq_n ?_
  refine RunC.seq ?_
  refine RunC.seq ?_
  refine RunC.region ?_
  refine RunR.sil hU [] 2 2 [0, 1, 2, 6, 7, 8, 9] [(0, .slice A xs.length c), (1, .slice A2 ys.length c2), (2, .int .u32 n), (6, .slice none 0 0), (7, .int .i64 0), (8, .slice A xs.length c), (9, .slice A2 ys.length c2)] ((True) ∧ (True) ∧ True) rfl (by kernel_rfl) ⟨trivial, trivial, trivial⟩ ?_
  refine RunR.step (dst := some 10) (op := .call { callee := .value (.func 30), args := #[.tmp 8, .tmp 9], argTypes := #[22, 22] }) (by kernel_rfl) (Step.call 30 [.slice A xs.length c, .slice A2 ys.length c2] (by kernel_rfl) (by kernel_rfl) [] [] [vw A (nums .u8 xs), vw A2 (nums .u8 ys)] (c_may_spec A c xs.length A2 c2 ys.length) [] (by kernel_rfl) (Lend.nil _) ?_)
  rintro _ _ ⟨rfl, rfl⟩
  refine RunR.sil hU [] 1 4 [0, 1, 2, 6, 7, 11] [(0, .slice A xs.length c), (1, .slice A2 ys.length c2), (2, .int .u32 n), (6, .slice none 0 0), (7, .int .i64 0), (11, .bool (!decide (xs.length = 32 ∧ ys.length = 12)))] ((True) ∧ True) rfl (by kernel_rfl) ⟨trivial, trivial⟩ ?_
  refine RunR.done (by kernel_rfl) ?_
  refine kseq_n ?_
  refine RunC.condn (xs.length = 32 ∧ ys.length = 12) (by kernel_rfl) (fun h3 => ?_) (fun h3 => ?_)
  · skip
    refine RunC.seq ?_
    refine RunC.region ?_
    refine RunR.sil hU [] 2 2 [0, 1, 2, 6, 7] [(0, .slice A xs.length c), (1, .slice A2 ys.length c2), (2, .int .u32 n), (6, .slice none 0 0), (7, .int .i64 1)] ((True) ∧ (True) ∧ True) rfl (by kernel_rfl) ⟨trivial, trivial, trivial⟩ ?_
    refine RunR.done (by kernel_rfl) ?_
    refine kseq_n ?_
    refine RunC.ret ?_
    refine kseq_r ?_
    refine kret_rt ([row 5 1 (.slice none 0 0) 0 (nums .u8 ([] : List Int)), vw A (nums .u8 xs), vw A2 (nums .u8 ys)]) (fun w0 W w hs => hs.nil_row 5 1) [.slice none 0 0, .int .i64 1] [0] [row 5 1 (.slice none 0 0) 0 (nums .u8 ([] : List Int))] ⟨rfl, rfl, trivial⟩ (by kernel_rfl) rfl ⟨none, 0, [], 1, rfl, rfl, (by exact .inr ⟨by first | assumption | omega, rfl, rfl⟩), (by intro h; cases h), (by exact In.nil _), (by exact Nat.le_refl _), (by intro h; simp at h)⟩
  · skip
    refine RunC.skip ?_
    refine kseq_n ?_
    refine RunC.seq ?_
    refine RunC.region ?_
    refine RunR.sil hU [] 3 3 [6, 7, 12, 13, 14] [(6, .slice none 0 0), (7, .int .i64 0), (12, .slice A xs.length c), (13, .slice A2 ys.length c2), (14, .int .u32 n)] ((True) ∧ (True) ∧ (True) ∧ True) rfl (by kernel_rfl) ⟨trivial, trivial, trivial, trivial⟩ ?_
    refine RunR.step (dst := some 15) (op := .call { callee := .value (.func 31), args := #[.tmp 12, .tmp 13, .tmp 14], argTypes := #[22, 22, 23] }) (by kernel_rfl) (Step.call 31 [.slice A xs.length c, .slice A2 ys.length c2, .int .u32 n] (by kernel_rfl) (by kernel_rfl) [] [vw A (nums .u8 xs), vw A2 (nums .u8 ys)] [vw A (nums .u8 xs), vw A2 (nums .u8 ys)] (c_block_spec A c xs A2 c2 ys n xs.length ys.length hx hy (by first | rfl | assumption | omega | (simp only [List.length_append, List.length_cons, List.length_nil, List.length_set, List.length_replicate, List.length_take, List.length_drop]; omega) | (simp; done)) (by first | rfl | assumption | omega | (simp only [List.length_append, List.length_cons, List.length_nil, List.length_set, List.length_replicate, List.length_take, List.length_drop]; omega) | (simp; done)) (by first | assumption | exact fits_wrap _ _ | exact fits_bits2 _ _ _ _ | (refine ⟨?_, ?_⟩ <;> omega)) (by first | assumption | omega | (simp only [List.length_append, List.length_cons, List.length_nil, List.length_set, List.length_replicate, List.length_take, List.length_drop]; omega) | (simp only [fits] at *; omega) | (simp only [List.length_append, List.length_cons, List.length_nil, List.length_set, List.length_replicate, List.length_take, List.length_drop] at *; omega) | (simp; done) | decide) (by first | assumption | omega | (simp only [List.length_append, List.length_cons, List.length_nil, List.length_set, List.length_replicate, List.length_take, List.length_drop]; omega) | (simp only [fits] at *; omega) | (simp only [List.length_append, List.length_cons, List.length_nil, List.length_set, List.length_replicate, List.length_take, List.length_drop] at *; omega) | (simp; done) | decide) (by first | rfl | assumption | omega | (simp only [List.length_append, List.length_cons, List.length_nil, List.length_set, List.length_replicate, List.length_take, List.length_drop]; omega) | (simp; done)) (by first | rfl | assumption | omega | (simp only [List.length_append, List.length_cons, List.length_nil, List.length_set, List.length_replicate, List.length_take, List.length_drop]; omega) | (simp; done))) [] (by kernel_rfl) (((Lend.nil _).tells 1 (vw A2 (nums .u8 ys)) A2 (nums .u8 ys) (by kernel_rfl) (tells_vw _ _)).tells 0 (vw A (nums .u8 xs)) A (nums .u8 xs) (by kernel_rfl) (tells_vw _ _)) ?_)
    rintro _ _ ⟨A34, c35, zs6, rfl, rfl, hp7, hp8, hp9, hp10, hp11⟩
    refine RunR.sil hU [] 2 6 [6, 7] [(6, .slice A34 zs6.length c35), (7, .int .i64 0)] ((True) ∧ (True) ∧ True) rfl (by kernel_rfl) ⟨trivial, trivial, trivial⟩ ?_
    refine RunR.done (by kernel_rfl) ?_
    refine kseq_n ?_
    refine RunC.ret ?_
    refine kret_r [.slice A34 zs6.length c35, .int .i64 0] [0] [row 5 1 (.slice A34 zs6.length c35) zs6.length (nums .u8 zs6)] ⟨rfl, rfl, trivial⟩ (by kernel_rfl) rfl ⟨A34, c35, zs6, 0, rfl, rfl, (by exact .inl ⟨by omega, by omega, rfl, by omega⟩), (by intro _; assumption), (by assumption), (by assumption), (by assumption)⟩

theorem cr_quarter_spec (a : Int) (b : Int) (c : Int) (d : Int) :
    CallsS Try.prog 33 [.int .u32 a, .int .u32 b, .int .u32 c, .int .u32 d] [] (fun r D => r = .tuple #[.int .u32 ((q4 a b c d).1), .int .u32 ((q4 a b c d).2.1), .int .u32 ((q4 a b c d).2.2.1), .int .u32 ((q4 a b c d).2.2.2)] ∧ D = []) := by
  refine CallsS.enter hU Try.f33 _ [.tmp 8, .tmp 9, .tmp 10, .tmp 11] 44 Try.func33 rfl (by decide) rfl rfl (by kernel_rfl) fun w0 W => ?_
  refine RunC.seq ?_
  refine RunC.region ?_
  refine RunR.sil hU [] 4 4 [0, 1, 2, 3, 8, 9, 10, 11] [(0, .int .u32 a), (1, .int .u32 b), (2, .int .u32 c), (3, .int .u32 d), (8, .int .u32 0), (9, .int .u32 0), (10, .int .u32 0), (11, .int .u32 0)] ((True) ∧ (True) ∧ (True) ∧ (True) ∧ True) rfl (by kernel_rfl) ⟨trivial, trivial, trivial, trivial, trivial⟩ ?_
  refine RunR.done (by kernel_rfl) ?_
  refine kseq_n ?_
  refine RunC.seq ?_
  refine RunC.region ?_
  refine RunR.sil hU [] 4 4 [0, 1, 2, 3, 8, 9, 10, 11] [(0, .int .u32 (IntKind.wrap .u32 (a + b))), (1, .int .u32 b), (2, .int .u32 c), (3, .int .u32 d), (8, .int .u32 0), (9, .int .u32 0), (10, .int .u32 0), (11, .int .u32 0)] ((True) ∧ (True) ∧ (True) ∧ (True) ∧ True) rfl (by kernel_rfl) ⟨trivial, trivial, trivial, trivial, trivial⟩ ?_
  refine RunR.done (by kernel_rfl) ?_
  refine kseq_n ?_
  refine RunC.seq ?_
  refine RunC.region ?_
  refine RunR.sil hU [] 3 3 [0, 1, 2, 3, 8, 9, 10, 11, 17] [(0, .int .u32 (IntKind.wrap .u32 (a + b))), (1, .int .u32 b), (2, .int .u32 c), (3, .int .u32 d), (8, .int .u32 0), (9, .int .u32 0), (10, .int .u32 0), (11, .int .u32 0), (17, .int .u32 (bits2 .xor .u32 d (IntKind.wrap .u32 (a + b))))] ((True) ∧ (True) ∧ (True) ∧ True) rfl (by kernel_rfl) ⟨trivial, trivial, trivial, trivial⟩ ?_
  refine RunR.step (dst := some 18) (op := .call { callee := .value (.func 60), args := #[.tmp 17, .const (.int .i64 16)], argTypes := #[23, 3] }) (by kernel_rfl) (Step.call 60 [.int .u32 (bits2 .xor .u32 d (IntKind.wrap .u32 (a + b))), .int .i64 16] (by kernel_rfl) (by kernel_rfl) [] [] [] (cr_rol_spec (bits2 .xor .u32 d (IntKind.wrap .u32 (a + b))) 16 (by first | assumption | omega | (simp only [List.length_append, List.length_cons, List.length_nil, List.length_set, List.length_replicate, List.length_take, List.length_drop]; omega) | (simp only [fits] at *; omega) | (simp only [List.length_append, List.length_cons, List.length_nil, List.length_set, List.length_replicate, List.length_take, List.length_drop] at *; omega) | (simp; done) | decide) (by first | assumption | omega | (simp only [List.length_append, List.length_cons, List.length_nil, List.length_set, List.length_replicate, List.length_take, List.length_drop]; omega) | (simp only [fits] at *; omega) | (simp only [List.length_append, List.length_cons, List.length_nil, List.length_set, List.length_replicate, List.length_take, List.length_drop] at *; omega) | (simp; done) | decide)) [] (by kernel_rfl) (Lend.nil _) ?_)
  rintro _ _ ⟨rfl, rfl⟩
  refine RunR.sil hU [] 1 5 [0, 1, 2, 3, 8, 9, 10, 11] [(0, .int .u32 (IntKind.wrap .u32 (a + b))), (1, .int .u32 b), (2, .int .u32 c), (3, .int .u32 (rotl (bits2 .xor .u32 d (IntKind.wrap .u32 (a + b))) 16)), (8, .int .u32 0), (9, .int .u32 0), (10, .int .u32 0), (11, .int .u32 0)] ((True) ∧ True) rfl (by kernel_rfl) ⟨trivial, trivial⟩ ?_
  refine RunR.done (by kernel_rfl) ?_
  refine kseq_n ?_
  refine RunC.seq ?_
  refine RunC.region ?_
  refine RunR.sil hU [] 4 4 [0, 1, 2, 3, 8, 9, 10, 11] [(0, .int .u32 (IntKind.wrap .u32 (a + b))), (1, .int .u32 b), (2, .int .u32 (IntKind.wrap .u32 (c + (rotl (bits2 .xor .u32 d (IntKind.wrap .u32 (a + b))) 16)))), (3, .int .u32 (rotl (bits2 .xor .u32 d (IntKind.wrap .u32 (a + b))) 16)), (8, .int .u32 0), (9, .int .u32 0), (10, .int .u32 0), (11, .int .u32 0)] ((True) ∧ (True) ∧ (True) ∧ (True) ∧ True) rfl (by kernel_rfl) ⟨trivial, trivial, trivial, trivial, trivial⟩ ?_
  refine RunR.done (by kernel_rfl) ?_
  refine kseq_n ?_
  refine RunC.seq ?_
  refine RunC.region ?_
  refine RunR.sil hU [] 3 3 [0, 1, 2, 3, 8, 9, 10, 11, 24] [(0, .int .u32 (IntKind.wrap .u32 (a + b))), (1, .int .u32 b), (2, .int .u32 (IntKind.wrap .u32 (c + (rotl (bits2 .xor .u32 d (IntKind.wrap .u32 (a + b))) 16)))), (3, .int .u32 (rotl (bits2 .xor .u32 d (IntKind.wrap .u32 (a + b))) 16)), (8, .int .u32 0), (9, .int .u32 0), (10, .int .u32 0), (11, .int .u32 0), (24, .int .u32 (bits2 .xor .u32 b (IntKind.wrap .u32 (c + (rotl (bits2 .xor .u32 d (IntKind.wrap .u32 (a + b))) 16)))))] ((True) ∧ (True) ∧ (True) ∧ True) rfl (by kernel_rfl) ⟨trivial, trivial, trivial, trivial⟩ ?_
  refine RunR.step (dst := some 25) (op := .call { callee := .value (.func 60), args := #[.tmp 24, .const (.int .i64 12)], argTypes := #[23, 3] }) (by kernel_rfl) (Step.call 60 [.int .u32 (bits2 .xor .u32 b (IntKind.wrap .u32 (c + (rotl (bits2 .xor .u32 d (IntKind.wrap .u32 (a + b))) 16)))), .int .i64 12] (by kernel_rfl) (by kernel_rfl) [] [] [] (cr_rol_spec (bits2 .xor .u32 b (IntKind.wrap .u32 (c + (rotl (bits2 .xor .u32 d (IntKind.wrap .u32 (a + b))) 16)))) 12 (by first | assumption | omega | (simp only [List.length_append, List.length_cons, List.length_nil, List.length_set, List.length_replicate, List.length_take, List.length_drop]; omega) | (simp only [fits] at *; omega) | (simp only [List.length_append, List.length_cons, List.length_nil, List.length_set, List.length_replicate, List.length_take, List.length_drop] at *; omega) | (simp; done) | decide) (by first | assumption | omega | (simp only [List.length_append, List.length_cons, List.length_nil, List.length_set, List.length_replicate, List.length_take, List.length_drop]; omega) | (simp only [fits] at *; omega) | (simp only [List.length_append, List.length_cons, List.length_nil, List.length_set, List.length_replicate, List.length_take, List.length_drop] at *; omega) | (simp; done) | decide)) [] (by kernel_rfl) (Lend.nil _) ?_)
  rintro _ _ ⟨rfl, rfl⟩
  refine RunR.sil hU [] 1 5 [0, 1, 2, 3, 8, 9, 10, 11] [(0, .int .u32 (IntKind.wrap .u32 (a + b))), (1, .int .u32 (rotl (bits2 .xor .u32 b (IntKind.wrap .u32 (c + (rotl (bits2 .xor .u32 d (IntKind.wrap .u32 (a + b))) 16)))) 12)), (2, .int .u32 (IntKind.wrap .u32 (c + (rotl (bits2 .xor .u32 d (IntKind.wrap .u32 (a + b))) 16)))), (3, .int .u32 (rotl (bits2 .xor .u32 d (IntKind.wrap .u32 (a + b))) 16)), (8, .int .u32 0), (9, .int .u32 0), (10, .int .u32 0), (11, .int .u32 0)] ((True) ∧ True) rfl (by kernel_rfl) ⟨trivial, trivial⟩ ?_
  refine RunR.done (by kernel_rfl) ?_
  refine kseq_n ?_
  refine RunC.seq ?_
  refine RunC.region ?_
  refine RunR.sil hU [] 4 4 [0, 1, 2, 3, 8, 9, 10, 11] [(0, .int .u32 (IntKind.wrap .u32 ((IntKind.wrap .u32 (a + b)) + (rotl (bits2 .xor .u32 b (IntKind.wrap .u32 (c + (rotl (bits2 .xor .u32 d (IntKind.wrap .u32 (a + b))) 16)))) 12)))), (1, .int .u32 (rotl (bits2 .xor .u32 b (IntKind.wrap .u32 (c + (rotl (bits2 .xor .u32 d (IntKind.wrap .u32 (a + b))) 16)))) 12)), (2, .int .u32 (IntKind.wrap .u32 (c + (rotl (bits2 .xor .u32 d (IntKind.wrap .u32 (a + b))) 16)))), (3, .int .u32 (rotl (bits2 .xor .u32 d (IntKind.wrap .u32 (a + b))) 16)), (8, .int .u32 0), (9, .int .u32 0), (10, .int .u32 0), (11, .int .u32 0)] ((True) ∧ (True) ∧ (True) ∧ (True) ∧ True) rfl (by kernel_rfl) ⟨trivial, trivial, trivial, trivial, trivial⟩ ?_
  refine RunR.done (by kernel_rfl) ?_
  refine kseq_n ?_
  refine RunC.seq ?_
  refine RunC.region ?_
  refine RunR.sil hU [] 3 3 [0, 1, 2, 3, 8, 9, 10, 11, 31] [(0, .int .u32 (IntKind.wrap .u32 ((IntKind.wrap .u32 (a + b)) + (rotl (bits2 .xor .u32 b (IntKind.wrap .u32 (c + (rotl (bits2 .xor .u32 d (IntKind.wrap .u32 (a + b))) 16)))) 12)))), (1, .int .u32 (rotl (bits2 .xor .u32 b (IntKind.wrap .u32 (c + (rotl (bits2 .xor .u32 d (IntKind.wrap .u32 (a + b))) 16)))) 12)), (2, .int .u32 (IntKind.wrap .u32 (c + (rotl (bits2 .xor .u32 d (IntKind.wrap .u32 (a + b))) 16)))), (3, .int .u32 (rotl (bits2 .xor .u32 d (IntKind.wrap .u32 (a + b))) 16)), (8, .int .u32 0), (9, .int .u32 0), (10, .int .u32 0), (11, .int .u32 0), (31, .int .u32 (bits2 .xor .u32 (rotl (bits2 .xor .u32 d (IntKind.wrap .u32 (a + b))) 16) (IntKind.wrap .u32 ((IntKind.wrap .u32 (a + b)) + (rotl (bits2 .xor .u32 b (IntKind.wrap .u32 (c + (rotl (bits2 .xor .u32 d (IntKind.wrap .u32 (a + b))) 16)))) 12)))))] ((True) ∧ (True) ∧ (True) ∧ True) rfl (by kernel_rfl) ⟨trivial, trivial, trivial, trivial⟩ ?_
  refine RunR.step (dst := some 32) (op := .call { callee := .value (.func 60), args := #[.tmp 31, .const (.int .i64 8)], argTypes := #[23, 3] }) (by kernel_rfl) (Step.call 60 [.int .u32 (bits2 .xor .u32 (rotl (bits2 .xor .u32 d (IntKind.wrap .u32 (a + b))) 16) (IntKind.wrap .u32 ((IntKind.wrap .u32 (a + b)) + (rotl (bits2 .xor .u32 b (IntKind.wrap .u32 (c + (rotl (bits2 .xor .u32 d (IntKind.wrap .u32 (a + b))) 16)))) 12)))), .int .i64 8] (by kernel_rfl) (by kernel_rfl) [] [] [] (cr_rol_spec (bits2 .xor .u32 (rotl (bits2 .xor .u32 d (IntKind.wrap .u32 (a + b))) 16) (IntKind.wrap .u32 ((IntKind.wrap .u32 (a + b)) + (rotl (bits2 .xor .u32 b (IntKind.wrap .u32 (c + (rotl (bits2 .xor .u32 d (IntKind.wrap .u32 (a + b))) 16)))) 12)))) 8 (by first | assumption | omega | (simp only [List.length_append, List.length_cons, List.length_nil, List.length_set, List.length_replicate, List.length_take, List.length_drop]; omega) | (simp only [fits] at *; omega) | (simp only [List.length_append, List.length_cons, List.length_nil, List.length_set, List.length_replicate, List.length_take, List.length_drop] at *; omega) | (simp; done) | decide) (by first | assumption | omega | (simp only [List.length_append, List.length_cons, List.length_nil, List.length_set, List.length_replicate, List.length_take, List.length_drop]; omega) | (simp only [fits] at *; omega) | (simp only [List.length_append, List.length_cons, List.length_nil, List.length_set, List.length_replicate, List.length_take, List.length_drop] at *; omega) | (simp; done) | decide)) [] (by kernel_rfl) (Lend.nil _) ?_)
  rintro _ _ ⟨rfl, rfl⟩
  refine RunR.sil hU [] 1 5 [0, 1, 2, 3, 8, 9, 10, 11] [(0, .int .u32 (IntKind.wrap .u32 ((IntKind.wrap .u32 (a + b)) + (rotl (bits2 .xor .u32 b (IntKind.wrap .u32 (c + (rotl (bits2 .xor .u32 d (IntKind.wrap .u32 (a + b))) 16)))) 12)))), (1, .int .u32 (rotl (bits2 .xor .u32 b (IntKind.wrap .u32 (c + (rotl (bits2 .xor .u32 d (IntKind.wrap .u32 (a + b))) 16)))) 12)), (2, .int .u32 (IntKind.wrap .u32 (c + (rotl (bits2 .xor .u32 d (IntKind.wrap .u32 (a + b))) 16)))), (3, .int .u32 (rotl (bits2 .xor .u32 (rotl (bits2 .xor .u32 d (IntKind.wrap .u32 (a + b))) 16) (IntKind.wrap .u32 ((IntKind.wrap .u32 (a + b)) + (rotl (bits2 .xor .u32 b (IntKind.wrap .u32 (c + (rotl (bits2 .xor .u32 d (IntKind.wrap .u32 (a + b))) 16)))) 12)))) 8)), (8, .int .u32 0), (9, .int .u32 0), (10, .int .u32 0), (11, .int .u32 0)] ((True) ∧ True) rfl (by kernel_rfl) ⟨trivial, trivial⟩ ?_
  refine RunR.done (by kernel_rfl) ?_
  refine kseq_n ?_
  refine RunC.seq ?_
  refine RunC.region ?_
  refine RunR.sil hU [] 4 4 [0, 1, 2, 3, 8, 9, 10, 11] [(0, .int .u32 (IntKind.wrap .u32 ((IntKind.wrap .u32 (a + b)) + (rotl (bits2 .xor .u32 b (IntKind.wrap .u32 (c + (rotl (bits2 .xor .u32 d (IntKind.wrap .u32 (a + b))) 16)))) 12)))), (1, .int .u32 (rotl (bits2 .xor .u32 b (IntKind.wrap .u32 (c + (rotl (bits2 .xor .u32 d (IntKind.wrap .u32 (a + b))) 16)))) 12)), (2, .int .u32 (IntKind.wrap .u32 ((IntKind.wrap .u32 (c + (rotl (bits2 .xor .u32 d (IntKind.wrap .u32 (a + b))) 16))) + (rotl (bits2 .xor .u32 (rotl (bits2 .xor .u32 d (IntKind.wrap .u32 (a + b))) 16) (IntKind.wrap .u32 ((IntKind.wrap .u32 (a + b)) + (rotl (bits2 .xor .u32 b (IntKind.wrap .u32 (c + (rotl (bits2 .xor .u32 d (IntKind.wrap .u32 (a + b))) 16)))) 12)))) 8)))), (3, .int .u32 (rotl (bits2 .xor .u32 (rotl (bits2 .xor .u32 d (IntKind.wrap .u32 (a + b))) 16) (IntKind.wrap .u32 ((IntKind.wrap .u32 (a + b)) + (rotl (bits2 .xor .u32 b (IntKind.wrap .u32 (c + (rotl (bits2 .xor .u32 d (IntKind.wrap .u32 (a + b))) 16)))) 12)))) 8)), (8, .int .u32 0), (9, .int .u32 0), (10, .int .u32 0), (11, .int .u32 0)] ((True) ∧ (True) ∧ (True) ∧ (True) ∧ True) rfl (by kernel_rfl) ⟨trivial, trivial, trivial, trivial, trivial⟩ ?_
  refine RunR.done (by kernel_rfl) ?_
  refine kseq_n ?_
  refine RunC.seq ?_
  refine RunC.region ?_
  refine RunR.sil hU [] 3 3 [0, 1, 2, 3, 8, 9, 10, 11, 38] [(0, .int .u32 (IntKind.wrap .u32 ((IntKind.wrap .u32 (a + b)) + (rotl (bits2 .xor .u32 b (IntKind.wrap .u32 (c + (rotl (bits2 .xor .u32 d (IntKind.wrap .u32 (a + b))) 16)))) 12)))), (1, .int .u32 (rotl (bits2 .xor .u32 b (IntKind.wrap .u32 (c + (rotl (bits2 .xor .u32 d (IntKind.wrap .u32 (a + b))) 16)))) 12)), (2, .int .u32 (IntKind.wrap .u32 ((IntKind.wrap .u32 (c + (rotl (bits2 .xor .u32 d (IntKind.wrap .u32 (a + b))) 16))) + (rotl (bits2 .xor .u32 (rotl (bits2 .xor .u32 d (IntKind.wrap .u32 (a + b))) 16) (IntKind.wrap .u32 ((IntKind.wrap .u32 (a + b)) + (rotl (bits2 .xor .u32 b (IntKind.wrap .u32 (c + (rotl (bits2 .xor .u32 d (IntKind.wrap .u32 (a + b))) 16)))) 12)))) 8)))), (3, .int .u32 (rotl (bits2 .xor .u32 (rotl (bits2 .xor .u32 d (IntKind.wrap .u32 (a + b))) 16) (IntKind.wrap .u32 ((IntKind.wrap .u32 (a + b)) + (rotl (bits2 .xor .u32 b (IntKind.wrap .u32 (c + (rotl (bits2 .xor .u32 d (IntKind.wrap .u32 (a + b))) 16)))) 12)))) 8)), (8, .int .u32 0), (9, .int .u32 0), (10, .int .u32 0), (11, .int .u32 0), (38, .int .u32 (bits2 .xor .u32 (rotl (bits2 .xor .u32 b (IntKind.wrap .u32 (c + (rotl (bits2 .xor .u32 d (IntKind.wrap .u32 (a + b))) 16)))) 12) (IntKind.wrap .u32 ((IntKind.wrap .u32 (c + (rotl (bits2 .xor .u32 d (IntKind.wrap .u32 (a + b))) 16))) + (rotl (bits2 .xor .u32 (rotl (bits2 .xor .u32 d (IntKind.wrap .u32 (a + b))) 16) (IntKind.wrap .u32 ((IntKind.wrap .u32 (a + b)) + (rotl (bits2 .xor .u32 b (IntKind.wrap .u32 (c + (rotl (bits2 .xor .u32 d (IntKind.wrap .u32 (a + b))) 16)))) 12)))) 8)))))] ((True) ∧ (True) ∧ (True) ∧ True) rfl (by kernel_rfl) ⟨trivial, trivial, trivial, trivial⟩ ?_
  refine RunR.step (dst := some 39) (op := .call { callee := .value (.func 60), args := #[.tmp 38, .const (.int .i64 7)], argTypes := #[23, 3] }) (by kernel_rfl) (Step.call 60 [.int .u32 (bits2 .xor .u32 (rotl (bits2 .xor .u32 b (IntKind.wrap .u32 (c + (rotl (bits2 .xor .u32 d (IntKind.wrap .u32 (a + b))) 16)))) 12) (IntKind.wrap .u32 ((IntKind.wrap .u32 (c + (rotl (bits2 .xor .u32 d (IntKind.wrap .u32 (a + b))) 16))) + (rotl (bits2 .xor .u32 (rotl (bits2 .xor .u32 d (IntKind.wrap .u32 (a + b))) 16) (IntKind.wrap .u32 ((IntKind.wrap .u32 (a + b)) + (rotl (bits2 .xor .u32 b (IntKind.wrap .u32 (c + (rotl (bits2 .xor .u32 d (IntKind.wrap .u32 (a + b))) 16)))) 12)))) 8)))), .int .i64 7] (by kernel_rfl) (by kernel_rfl) [] [] [] (cr_rol_spec (bits2 .xor .u32 (rotl (bits2 .xor .u32 b (IntKind.wrap .u32 (c + (rotl (bits2 .xor .u32 d (IntKind.wrap .u32 (a + b))) 16)))) 12) (IntKind.wrap .u32 ((IntKind.wrap .u32 (c + (rotl (bits2 .xor .u32 d (IntKind.wrap .u32 (a + b))) 16))) + (rotl (bits2 .xor .u32 (rotl (bits2 .xor .u32 d (IntKind.wrap .u32 (a + b))) 16) (IntKind.wrap .u32 ((IntKind.wrap .u32 (a + b)) + (rotl (bits2 .xor .u32 b (IntKind.wrap .u32 (c + (rotl (bits2 .xor .u32 d (IntKind.wrap .u32 (a + b))) 16)))) 12)))) 8)))) 7 (by first | assumption | omega | (simp only [List.length_append, List.length_cons, List.length_nil, List.length_set, List.length_replicate, List.length_take, List.length_drop]; omega) | (simp only [fits] at *; omega) | (simp only [List.length_append, List.length_cons, List.length_nil, List.length_set, List.length_replicate, List.length_take, List.length_drop] at *; omega) | (simp; done) | decide) (by first | assumption | omega | (simp only [List.length_append, List.length_cons, List.length_nil, List.length_set, List.length_replicate, List.length_take, List.length_drop]; omega) | (simp only [fits] at *; omega) | (simp only [List.length_append, List.length_cons, List.length_nil, List.length_set, List.length_replicate, List.length_take, List.length_drop] at *; omega) | (simp; done) | decide)) [] (by kernel_rfl) (Lend.nil _) ?_)
  rintro _ _ ⟨rfl, rfl⟩
  refine RunR.sil hU [] 1 5 [0, 1, 2, 3, 8, 9, 10, 11] [(0, .int .u32 (IntKind.wrap .u32 ((IntKind.wrap .u32 (a + b)) + (rotl (bits2 .xor .u32 b (IntKind.wrap .u32 (c + (rotl (bits2 .xor .u32 d (IntKind.wrap .u32 (a + b))) 16)))) 12)))), (1, .int .u32 (rotl (bits2 .xor .u32 (rotl (bits2 .xor .u32 b (IntKind.wrap .u32 (c + (rotl (bits2 .xor .u32 d (IntKind.wrap .u32 (a + b))) 16)))) 12) (IntKind.wrap .u32 ((IntKind.wrap .u32 (c + (rotl (bits2 .xor .u32 d (IntKind.wrap .u32 (a + b))) 16))) + (rotl (bits2 .xor .u32 (rotl (bits2 .xor .u32 d (IntKind.wrap .u32 (a + b))) 16) (IntKind.wrap .u32 ((IntKind.wrap .u32 (a + b)) + (rotl (bits2 .xor .u32 b (IntKind.wrap .u32 (c + (rotl (bits2 .xor .u32 d (IntKind.wrap .u32 (a + b))) 16)))) 12)))) 8)))) 7)), (2, .int .u32 (IntKind.wrap .u32 ((IntKind.wrap .u32 (c + (rotl (bits2 .xor .u32 d (IntKind.wrap .u32 (a + b))) 16))) + (rotl (bits2 .xor .u32 (rotl (bits2 .xor .u32 d (IntKind.wrap .u32 (a + b))) 16) (IntKind.wrap .u32 ((IntKind.wrap .u32 (a + b)) + (rotl (bits2 .xor .u32 b (IntKind.wrap .u32 (c + (rotl (bits2 .xor .u32 d (IntKind.wrap .u32 (a + b))) 16)))) 12)))) 8)))), (3, .int .u32 (rotl (bits2 .xor .u32 (rotl (bits2 .xor .u32 d (IntKind.wrap .u32 (a + b))) 16) (IntKind.wrap .u32 ((IntKind.wrap .u32 (a + b)) + (rotl (bits2 .xor .u32 b (IntKind.wrap .u32 (c + (rotl (bits2 .xor .u32 d (IntKind.wrap .u32 (a + b))) 16)))) 12)))) 8)), (8, .int .u32 0), (9, .int .u32 0), (10, .int .u32 0), (11, .int .u32 0)] ((True) ∧ True) rfl (by kernel_rfl) ⟨trivial, trivial⟩ ?_
  refine RunR.done (by kernel_rfl) ?_
  refine kseq_n ?_
  refine RunC.seq ?_
  refine RunC.region ?_
  refine RunR.sil hU [] 8 8 [8, 9, 10, 11] [(8, .int .u32 (IntKind.wrap .u32 ((IntKind.wrap .u32 (a + b)) + (rotl (bits2 .xor .u32 b (IntKind.wrap .u32 (c + (rotl (bits2 .xor .u32 d (IntKind.wrap .u32 (a + b))) 16)))) 12)))), (9, .int .u32 (rotl (bits2 .xor .u32 (rotl (bits2 .xor .u32 b (IntKind.wrap .u32 (c + (rotl (bits2 .xor .u32 d (IntKind.wrap .u32 (a + b))) 16)))) 12) (IntKind.wrap .u32 ((IntKind.wrap .u32 (c + (rotl (bits2 .xor .u32 d (IntKind.wrap .u32 (a + b))) 16))) + (rotl (bits2 .xor .u32 (rotl (bits2 .xor .u32 d (IntKind.wrap .u32 (a + b))) 16) (IntKind.wrap .u32 ((IntKind.wrap .u32 (a + b)) + (rotl (bits2 .xor .u32 b (IntKind.wrap .u32 (c + (rotl (bits2 .xor .u32 d (IntKind.wrap .u32 (a + b))) 16)))) 12)))) 8)))) 7)), (10, .int .u32 (IntKind.wrap .u32 ((IntKind.wrap .u32 (c + (rotl (bits2 .xor .u32 d (IntKind.wrap .u32 (a + b))) 16))) + (rotl (bits2 .xor .u32 (rotl (bits2 .xor .u32 d (IntKind.wrap .u32 (a + b))) 16) (IntKind.wrap .u32 ((IntKind.wrap .u32 (a + b)) + (rotl (bits2 .xor .u32 b (IntKind.wrap .u32 (c + (rotl (bits2 .xor .u32 d (IntKind.wrap .u32 (a + b))) 16)))) 12)))) 8)))), (11, .int .u32 (rotl (bits2 .xor .u32 (rotl (bits2 .xor .u32 d (IntKind.wrap .u32 (a + b))) 16) (IntKind.wrap .u32 ((IntKind.wrap .u32 (a + b)) + (rotl (bits2 .xor .u32 b (IntKind.wrap .u32 (c + (rotl (bits2 .xor .u32 d (IntKind.wrap .u32 (a + b))) 16)))) 12)))) 8))] ((True) ∧ (True) ∧ (True) ∧ (True) ∧ (True) ∧ (True) ∧ (True) ∧ (True) ∧ True) rfl (by kernel_rfl) ⟨trivial, trivial, trivial, trivial, trivial, trivial, trivial, trivial, trivial⟩ ?_
  refine RunR.done (by kernel_rfl) ?_
  refine kseq_n ?_
  refine RunC.ret ?_
  refine kret_r [.int .u32 (IntKind.wrap .u32 ((IntKind.wrap .u32 (a + b)) + (rotl (bits2 .xor .u32 b (IntKind.wrap .u32 (c + (rotl (bits2 .xor .u32 d (IntKind.wrap .u32 (a + b))) 16)))) 12))), .int .u32 (rotl (bits2 .xor .u32 (rotl (bits2 .xor .u32 b (IntKind.wrap .u32 (c + (rotl (bits2 .xor .u32 d (IntKind.wrap .u32 (a + b))) 16)))) 12) (IntKind.wrap .u32 ((IntKind.wrap .u32 (c + (rotl (bits2 .xor .u32 d (IntKind.wrap .u32 (a + b))) 16))) + (rotl (bits2 .xor .u32 (rotl (bits2 .xor .u32 d (IntKind.wrap .u32 (a + b))) 16) (IntKind.wrap .u32 ((IntKind.wrap .u32 (a + b)) + (rotl (bits2 .xor .u32 b (IntKind.wrap .u32 (c + (rotl (bits2 .xor .u32 d (IntKind.wrap .u32 (a + b))) 16)))) 12)))) 8)))) 7), .int .u32 (IntKind.wrap .u32 ((IntKind.wrap .u32 (c + (rotl (bits2 .xor .u32 d (IntKind.wrap .u32 (a + b))) 16))) + (rotl (bits2 .xor .u32 (rotl (bits2 .xor .u32 d (IntKind.wrap .u32 (a + b))) 16) (IntKind.wrap .u32 ((IntKind.wrap .u32 (a + b)) + (rotl (bits2 .xor .u32 b (IntKind.wrap .u32 (c + (rotl (bits2 .xor .u32 d (IntKind.wrap .u32 (a + b))) 16)))) 12)))) 8))), .int .u32 (rotl (bits2 .xor .u32 (rotl (bits2 .xor .u32 d (IntKind.wrap .u32 (a + b))) 16) (IntKind.wrap .u32 ((IntKind.wrap .u32 (a + b)) + (rotl (bits2 .xor .u32 b (IntKind.wrap .u32 (c + (rotl (bits2 .xor .u32 d (IntKind.wrap .u32 (a + b))) 16)))) 12)))) 8)] [] [] ⟨rfl, rfl, rfl, rfl, trivial⟩ (by kernel_rfl) rfl ⟨rfl, rfl⟩
end Go.Proofs.Ytoaoabnhkiijpaa.V4
