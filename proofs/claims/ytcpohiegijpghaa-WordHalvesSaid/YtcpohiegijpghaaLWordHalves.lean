/- The law WordHalves returns true whatever it is handed: its walk, on the contracts of what it calls. -/
import Derived.Test.YtcpohiegijpghaaW1
namespace Go.Proofs.Ytcpohiegijpghaa.LWordHalves
open Go Go.Proofs.Ytcpohiegijpghaa.SL Go.Proofs.Ytcpohiegijpghaa.SL.W Go.Proofs.Ytcpohiegijpghaa.W1
set_option linter.unusedVariables false
set_option linter.unusedSimpArgs false
set_option maxRecDepth 100000
set_option maxHeartbeats 4000000
def U : Tab where
  und := [(5, .int .u8), (22, .slice 5), (29, .int .u32), (31, .int .u64)]
  fld := []
  sz := [(5, 1), (22, 1), (29, 1), (31, 1)]
  ti := [(5, (1, 1, .int .u8 0)), (22, (1, 24, .slice none 0 0)), (29, (1, 4, .int .u32 0)), (31, (1, 8, .int .u64 0))]

theorem hU : U.OK Try.prog where
  und := by
    intro p hp
    simp only [U, List.mem_cons, List.not_mem_nil, or_false] at hp
    rcases hp with rfl | rfl | rfl | rfl
    · exact Try.underlying5
    · exact Try.underlying22
    · exact Try.underlying29
    · exact Try.underlying31
  fld := by
    intro p hp; cases hp
  sz := by
    intro p hp
    simp only [U, List.mem_cons, List.not_mem_nil, or_false] at hp
    rcases hp with rfl | rfl | rfl | rfl
    · exact ⟨Try.prog.types[5]!, by kernel_rfl, by kernel_rfl⟩
    · exact ⟨Try.prog.types[22]!, by kernel_rfl, by kernel_rfl⟩
    · exact ⟨Try.prog.types[29]!, by kernel_rfl, by kernel_rfl⟩
    · exact ⟨Try.prog.types[31]!, by kernel_rfl, by kernel_rfl⟩
  ti := by
    intro p hp
    simp only [U, List.mem_cons, List.not_mem_nil, or_false] at hp
    rcases hp with rfl | rfl | rfl | rfl
    · exact ⟨Try.prog.types[5]!, by kernel_rfl, by kernel_rfl, by kernel_rfl, by kernel_rfl⟩
    · exact ⟨Try.prog.types[22]!, by kernel_rfl, by kernel_rfl, by kernel_rfl, by kernel_rfl⟩
    · exact ⟨Try.prog.types[29]!, by kernel_rfl, by kernel_rfl, by kernel_rfl, by kernel_rfl⟩
    · exact ⟨Try.prog.types[31]!, by kernel_rfl, by kernel_rfl, by kernel_rfl, by kernel_rfl⟩
  mixed := by kernel_rfl

theorem l1_WordHalves_spec (v : Int) (hv : fits .u64 v) :
    CallsS Try.prog 6 [.int .u64 v] [] (fun r D => r = .bool true ∧ D = []) := by
  refine CallsS.enter hU Try.f6 _ [.tmp 2] 41 Try.func6 rfl (by decide) rfl rfl (by kernel_rfl) fun w0 W => ?_
  have hv2 := hv; simp only [fits] at hv2
  refine RunC.seq ?_
  refine RunC.region ?_
  refine RunR.sil hU [] 1 1 [0, 2] [(0, .int .u64 v), (2, .bool false)] ((True) ∧ True) rfl (by kernel_rfl) ⟨trivial, trivial⟩ ?_
  refine RunR.done (by kernel_rfl) ?_
  refine kseq_n ?_
  refine RunC.seq ?_
  refine RunC.seq ?_
  refine RunC.region ?_
  refine RunR.step (dst := some 7) (op := .call { callee := .value (.func 13), args := #[], argTypes := #[] }) (by kernel_rfl) (Step.call 13 [] (by kernel_rfl) (by kernel_rfl) [] [] [] (l1_awake_spec) [] (by kernel_rfl) (Lend.nil _) ?_)
  rintro _ _ ⟨rfl, rfl⟩
  refine RunR.sil hU [] 1 2 [0, 2, 8] [(0, .int .u64 v), (2, .bool false), (8, .bool false)] ((True) ∧ True) rfl (by kernel_rfl) ⟨trivial, trivial⟩ ?_
  refine RunR.done (by kernel_rfl) ?_
  refine kseq_n ?_
  refine RunC.cond (b := false) (by kernel_rfl) (fun h => by cases h) (fun _ => ?_)
  refine RunC.skip ?_
  refine kseq_n ?_
  refine RunC.seq ?_
  refine RunC.region ?_
  refine RunR.sil hU [] 3 3 [0, 2, 3] [(0, .int .u64 v), (2, .bool false), (3, .int .u32 (IntKind.wrap .u32 v))] ((True) ∧ (True) ∧ (True) ∧ True) rfl (by kernel_rfl) ⟨trivial, trivial, trivial, trivial⟩ ?_
  refine RunR.done (by kernel_rfl) ?_
  refine kseq_n ?_
  refine RunC.seq ?_
  refine RunC.region ?_
  refine RunR.sil hU [1] 4 4 [0, 2, 3, 4] [(0, .int .u64 v), (2, .bool false), (3, .int .u32 (IntKind.wrap .u32 v)), (4, .int .u32 (IntKind.wrap .u32 (v / 2 ^ 32)))] ((True) ∧ (0 ≤ (32 : Int)) ∧ (True) ∧ (True) ∧ True) rfl (by kernel_rfl) ⟨trivial, (by omega), trivial, trivial, trivial⟩ ?_
  refine RunR.done (by kernel_rfl) ?_
  refine kseq_n ?_
  refine RunC.seq ?_
  refine RunC.region ?_
  refine RunR.sil hU [] 1 1 [0, 2, 3, 4, 14] [(0, .int .u64 v), (2, .bool false), (3, .int .u32 (IntKind.wrap .u32 v)), (4, .int .u32 (IntKind.wrap .u32 (v / 2 ^ 32))), (14, .int .u32 (IntKind.wrap .u32 v))] ((True) ∧ True) rfl (by kernel_rfl) ⟨trivial, trivial⟩ ?_
  refine RunR.step (dst := some 15) (op := .call { callee := .value (.func 27), args := #[.tmp 14], argTypes := #[29] }) (by kernel_rfl) (Step.call 27 [.int .u32 (IntKind.wrap .u32 v)] (by kernel_rfl) (by kernel_rfl) [] [] [] (w_Put32_spec (IntKind.wrap .u32 v) (by first | assumption | exact fits_wrap _ _ | exact fits_bits2 _ _ _ _ | (refine ⟨?_, ?_⟩ <;> omega))) [] (by kernel_rfl) (Lend.nil _) ?_)
  rintro _ _ ⟨A1, c2, zs3, rfl, rfl, hp4, hp5, hp6, hp7, hp8⟩
  refine RunR.sil hU [] 1 3 [0, 2, 3, 4, 15, 16] [(0, .int .u64 v), (2, .bool false), (3, .int .u32 (IntKind.wrap .u32 v)), (4, .int .u32 (IntKind.wrap .u32 (v / 2 ^ 32))), (15, .slice A1 zs3.length c2), (16, .int .u32 (IntKind.wrap .u32 (v / 2 ^ 32)))] ((True) ∧ True) rfl (by kernel_rfl) ⟨trivial, trivial⟩ ?_
  refine RunR.step (dst := some 17) (op := .call { callee := .value (.func 27), args := #[.tmp 16], argTypes := #[29] }) (by kernel_rfl) (Step.call 27 [.int .u32 (IntKind.wrap .u32 (v / 2 ^ 32))] (by kernel_rfl) (by kernel_rfl) [] [] [row 5 1 (.slice A1 zs3.length c2) zs3.length (nums .u8 zs3)] (w_Put32_spec (IntKind.wrap .u32 (v / 2 ^ 32)) (by first | assumption | exact fits_wrap _ _ | exact fits_bits2 _ _ _ _ | (refine ⟨?_, ?_⟩ <;> omega))) [] (by kernel_rfl) (Lend.nil _) ?_)
  rintro _ _ ⟨A9, c10, zs11, rfl, rfl, hp12, hp13, hp14, hp15, hp16⟩
  refine RunR.step (dst := some 18) (op := .call { callee := .builtin .append, args := #[.tmp 15, .tmp 17], argTypes := #[22, 22] }) (by kernel_rfl) (Step.append_nums hU 5 1 (.int .u8 0) .u8 1 0 A1 zs3.length c2 zs3 A9 zs11.length c10 (row 5 1 (.slice A9 zs11.length c10) zs11.length (nums .u8 zs11)) zs11 rfl rfl rfl (by kernel_rfl) (by kernel_rfl) (by kernel_rfl) (by kernel_rfl) (tells_row _ _ _ _ _ _) (by first | rfl | omega | (simp; omega)) (by first | rfl | omega | (simp; omega)) (by omega) (by omega) (by kernel_rfl) (fun A17 c18 hc19 hA20 => ?_))
  have hl21 : (zs3 ++ zs11).length = zs3.length + zs11.length := List.length_append
  refine RunR.sil hU [] 1 6 [0, 2, 3, 4, 5] [(0, .int .u64 v), (2, .bool false), (3, .int .u32 (IntKind.wrap .u32 v)), (4, .int .u32 (IntKind.wrap .u32 (v / 2 ^ 32))), (5, .slice A17 ((zs3 ++ zs11).length) c18)] ((True) ∧ True) rfl (by kernel_rfl) ⟨trivial, trivial⟩ ?_
  refine RunR.done (by kernel_rfl) ?_
  refine kseq_n ?_
  refine RunC.seq ?_
  refine RunC.region ?_
  refine RunR.sil hU [] 1 1 [0, 2, 3, 5, 19] [(0, .int .u64 v), (2, .bool false), (3, .int .u32 (IntKind.wrap .u32 v)), (5, .slice A17 ((zs3 ++ zs11).length) c18), (19, .int .u32 (IntKind.wrap .u32 (v / 2 ^ 32)))] ((True) ∧ True) rfl (by kernel_rfl) ⟨trivial, trivial⟩ ?_
  refine RunR.step (dst := some 20) (op := .call { callee := .value (.func 28), args := #[.tmp 19], argTypes := #[29] }) (by kernel_rfl) (Step.call 28 [.int .u32 (IntKind.wrap .u32 (v / 2 ^ 32))] (by kernel_rfl) (by kernel_rfl) [] [] [row 5 1 (.slice A17 ((zs3 ++ zs11).length) c18) ((zs3 ++ zs11).length) (nums .u8 (zs3 ++ zs11)), row 5 1 (.slice A9 zs11.length c10) zs11.length (nums .u8 zs11)] (w_Big32_spec (IntKind.wrap .u32 (v / 2 ^ 32)) (by first | assumption | exact fits_wrap _ _ | exact fits_bits2 _ _ _ _ | (refine ⟨?_, ?_⟩ <;> omega))) [] (by kernel_rfl) (Lend.nil _) ?_)
  rintro _ _ ⟨A22, c23, zs24, rfl, rfl, hp25, hp26, hp27, hp28, hp29⟩
  refine RunR.sil hU [] 1 3 [0, 2, 5, 20, 21] [(0, .int .u64 v), (2, .bool false), (5, .slice A17 ((zs3 ++ zs11).length) c18), (20, .slice A22 zs24.length c23), (21, .int .u32 (IntKind.wrap .u32 v))] ((True) ∧ True) rfl (by kernel_rfl) ⟨trivial, trivial⟩ ?_
  refine RunR.step (dst := some 22) (op := .call { callee := .value (.func 28), args := #[.tmp 21], argTypes := #[29] }) (by kernel_rfl) (Step.call 28 [.int .u32 (IntKind.wrap .u32 v)] (by kernel_rfl) (by kernel_rfl) [] [] [row 5 1 (.slice A22 zs24.length c23) zs24.length (nums .u8 zs24), row 5 1 (.slice A17 ((zs3 ++ zs11).length) c18) ((zs3 ++ zs11).length) (nums .u8 (zs3 ++ zs11)), row 5 1 (.slice A9 zs11.length c10) zs11.length (nums .u8 zs11)] (w_Big32_spec (IntKind.wrap .u32 v) (by first | assumption | exact fits_wrap _ _ | exact fits_bits2 _ _ _ _ | (refine ⟨?_, ?_⟩ <;> omega))) [] (by kernel_rfl) (Lend.nil _) ?_)
  rintro _ _ ⟨A30, c31, zs32, rfl, rfl, hp33, hp34, hp35, hp36, hp37⟩
  refine RunR.step (dst := some 23) (op := .call { callee := .builtin .append, args := #[.tmp 20, .tmp 22], argTypes := #[22, 22] }) (by kernel_rfl) (Step.append_nums hU 5 1 (.int .u8 0) .u8 1 0 A22 zs24.length c23 zs24 A30 zs32.length c31 (row 5 1 (.slice A30 zs32.length c31) zs32.length (nums .u8 zs32)) zs32 rfl rfl rfl (by kernel_rfl) (by kernel_rfl) (by kernel_rfl) (by kernel_rfl) (tells_row _ _ _ _ _ _) (by first | rfl | omega | (simp; omega)) (by first | rfl | omega | (simp; omega)) (by omega) (by omega) (by kernel_rfl) (fun A38 c39 hc40 hA41 => ?_))
  have hl42 : (zs24 ++ zs32).length = zs24.length + zs32.length := List.length_append
  refine RunR.sil hU [] 1 6 [0, 2, 5, 6] [(0, .int .u64 v), (2, .bool false), (5, .slice A17 ((zs3 ++ zs11).length) c18), (6, .slice A38 ((zs24 ++ zs32).length) c39)] ((True) ∧ True) rfl (by kernel_rfl) ⟨trivial, trivial⟩ ?_
  refine RunR.done (by kernel_rfl) ?_
  refine kseq_n ?_
  refine RunC.seq ?_
  refine RunC.region ?_
  refine RunR.sil hU [] 1 1 [0, 2, 5, 6, 24] [(0, .int .u64 v), (2, .bool false), (5, .slice A17 ((zs3 ++ zs11).length) c18), (6, .slice A38 ((zs24 ++ zs32).length) c39), (24, .int .u64 v)] ((True) ∧ True) rfl (by kernel_rfl) ⟨trivial, trivial⟩ ?_
  refine RunR.step (dst := some 25) (op := .call { callee := .value (.func 29), args := #[.tmp 24], argTypes := #[31] }) (by kernel_rfl) (Step.call 29 [.int .u64 v] (by kernel_rfl) (by kernel_rfl) [] [] [row 5 1 (.slice A38 ((zs24 ++ zs32).length) c39) ((zs24 ++ zs32).length) (nums .u8 (zs24 ++ zs32)), row 5 1 (.slice A30 zs32.length c31) zs32.length (nums .u8 zs32), row 5 1 (.slice A17 ((zs3 ++ zs11).length) c18) ((zs3 ++ zs11).length) (nums .u8 (zs3 ++ zs11)), row 5 1 (.slice A9 zs11.length c10) zs11.length (nums .u8 zs11)] (w_Put64_spec v (by first | assumption | exact fits_wrap _ _ | exact fits_bits2 _ _ _ _ | (refine ⟨?_, ?_⟩ <;> omega))) [] (by kernel_rfl) (Lend.nil _) ?_)
  rintro _ _ ⟨A43, c44, zs45, rfl, rfl, hp46, hp47, hp48, hp49, hp50⟩
  refine RunR.sil hU [] 1 3 [0, 2, 6, 25, 26] [(0, .int .u64 v), (2, .bool false), (6, .slice A38 ((zs24 ++ zs32).length) c39), (25, .slice A43 zs45.length c44), (26, .slice A17 ((zs3 ++ zs11).length) c18)] ((True) ∧ True) rfl (by kernel_rfl) ⟨trivial, trivial⟩ ?_
  refine RunR.step (dst := some 27) (op := .call { callee := .value (.func 18), args := #[.tmp 25, .tmp 26], argTypes := #[22, 22] }) (by kernel_rfl) (Step.call 18 [.slice A43 zs45.length c44, .slice A17 ((zs3 ++ zs11).length) c18] (by kernel_rfl) (by kernel_rfl) [] [vw A43 (nums .u8 zs45), vw A17 (nums .u8 (zs3 ++ zs11))] [row 5 1 (.slice A43 zs45.length c44) zs45.length (nums .u8 zs45), row 5 1 (.slice A38 ((zs24 ++ zs32).length) c39) ((zs24 ++ zs32).length) (nums .u8 (zs24 ++ zs32)), row 5 1 (.slice A30 zs32.length c31) zs32.length (nums .u8 zs32), row 5 1 (.slice A17 ((zs3 ++ zs11).length) c18) ((zs3 ++ zs11).length) (nums .u8 (zs3 ++ zs11)), row 5 1 (.slice A9 zs11.length c10) zs11.length (nums .u8 zs11)] (r_Equal_spec A43 c44 zs45 A17 c18 (zs3 ++ zs11) zs45.length ((zs3 ++ zs11).length) hp48 (by first | assumption | omega | (simp only [List.length_append, List.length_cons, List.length_nil, List.length_set, List.length_replicate, List.length_take, List.length_drop]; omega) | (simp only [fits] at *; omega) | (simp only [List.length_append, List.length_cons, List.length_nil, List.length_set, List.length_replicate, List.length_take, List.length_drop] at *; omega) | (simp; done) | decide) (by (repeat first | assumption | (simp only [fits]; omega) | with_reducible first | exact fits_wrap _ _ | exact fits_bits2 _ _ _ _ | exact In.nil _ | exact In.sb _ | exact In.replicate _ _ | apply In.append | apply In.cons | apply In.set | apply In.take | apply In.drop | apply In.rev)) (by first | assumption | omega | (simp only [List.length_append, List.length_cons, List.length_nil, List.length_set, List.length_replicate, List.length_take, List.length_drop]; omega) | (simp only [fits] at *; omega) | (simp only [List.length_append, List.length_cons, List.length_nil, List.length_set, List.length_replicate, List.length_take, List.length_drop] at *; omega) | (simp; done) | decide) (by first | rfl | assumption | omega | (simp only [List.length_append, List.length_cons, List.length_nil, List.length_set, List.length_replicate, List.length_take, List.length_drop]; omega) | (simp; done)) (by first | rfl | assumption | omega | (simp only [List.length_append, List.length_cons, List.length_nil, List.length_set, List.length_replicate, List.length_take, List.length_drop]; omega) | (simp; done))) [] (by kernel_rfl) (((Lend.nil _).tells 3 (row 5 1 (.slice A17 ((zs3 ++ zs11).length) c18) ((zs3 ++ zs11).length) (nums .u8 (zs3 ++ zs11))) A17 (nums .u8 (zs3 ++ zs11)) (by kernel_rfl) (tells_row _ _ _ _ _ _)).tells 0 (row 5 1 (.slice A43 zs45.length c44) zs45.length (nums .u8 zs45)) A43 (nums .u8 zs45) (by kernel_rfl) (tells_row _ _ _ _ _ _)) ?_)
  rintro _ _ ⟨rfl, rfl⟩
  refine RunR.sil hU [] 1 5 [0, 2, 6, 28] [(0, .int .u64 v), (2, .bool false), (6, .slice A38 ((zs24 ++ zs32).length) c39), (28, .bool (decide (zs45 = (zs3 ++ zs11))))] ((True) ∧ True) rfl (by kernel_rfl) ⟨trivial, trivial⟩ ?_
  refine RunR.env [0, 2, 6, 28] [(0, .int .u64 v), (2, .bool false), (6, .slice A38 ((zs24 ++ zs32).length) c39), (28, .bool (decide (zs45 = (zs3 ++ zs11))))] (by kernel_rfl) ?_
  have hk51 : (zs45 = (zs3 ++ zs11)) := by subst_vars; first | exact (halves hv).symm | exact (halvesBig hv).symm
  refine RunR.enveq [(0, .int .u64 v), (2, .bool false), (6, .slice A38 ((zs24 ++ zs32).length) c39), (28, .bool true)] (by rw [decide_eq_true hk51]; try rfl) ?_
  refine RunR.sil hU [] 1 6 [0, 2, 6, 28, 29] [(0, .int .u64 v), (2, .bool false), (6, .slice A38 ((zs24 ++ zs32).length) c39), (28, .bool true), (29, .int .u64 v)] ((True) ∧ True) rfl (by kernel_rfl) ⟨trivial, trivial⟩ ?_
  refine RunR.step (dst := some 30) (op := .call { callee := .value (.func 30), args := #[.tmp 29], argTypes := #[31] }) (by kernel_rfl) (Step.call 30 [.int .u64 v] (by kernel_rfl) (by kernel_rfl) [] [] [row 5 1 (.slice A43 zs45.length c44) zs45.length (nums .u8 zs45), row 5 1 (.slice A38 ((zs24 ++ zs32).length) c39) ((zs24 ++ zs32).length) (nums .u8 (zs24 ++ zs32)), row 5 1 (.slice A30 zs32.length c31) zs32.length (nums .u8 zs32), row 5 1 (.slice A17 ((zs3 ++ zs11).length) c18) ((zs3 ++ zs11).length) (nums .u8 (zs3 ++ zs11)), row 5 1 (.slice A9 zs11.length c10) zs11.length (nums .u8 zs11)] (w_Big64_spec v (by first | assumption | exact fits_wrap _ _ | exact fits_bits2 _ _ _ _ | (refine ⟨?_, ?_⟩ <;> omega))) [] (by kernel_rfl) (Lend.nil _) ?_)
  rintro _ _ ⟨A52, c53, zs54, rfl, rfl, hp55, hp56, hp57, hp58, hp59⟩
  refine RunR.sil hU [] 1 8 [0, 2, 6, 28, 30, 31] [(0, .int .u64 v), (2, .bool false), (6, .slice A38 ((zs24 ++ zs32).length) c39), (28, .bool true), (30, .slice A52 zs54.length c53), (31, .slice A38 ((zs24 ++ zs32).length) c39)] ((True) ∧ True) rfl (by kernel_rfl) ⟨trivial, trivial⟩ ?_
  refine RunR.step (dst := some 32) (op := .call { callee := .value (.func 18), args := #[.tmp 30, .tmp 31], argTypes := #[22, 22] }) (by kernel_rfl) (Step.call 18 [.slice A52 zs54.length c53, .slice A38 ((zs24 ++ zs32).length) c39] (by kernel_rfl) (by kernel_rfl) [] [vw A52 (nums .u8 zs54), vw A38 (nums .u8 (zs24 ++ zs32))] [row 5 1 (.slice A52 zs54.length c53) zs54.length (nums .u8 zs54), row 5 1 (.slice A43 zs45.length c44) zs45.length (nums .u8 zs45), row 5 1 (.slice A38 ((zs24 ++ zs32).length) c39) ((zs24 ++ zs32).length) (nums .u8 (zs24 ++ zs32)), row 5 1 (.slice A30 zs32.length c31) zs32.length (nums .u8 zs32), row 5 1 (.slice A17 ((zs3 ++ zs11).length) c18) ((zs3 ++ zs11).length) (nums .u8 (zs3 ++ zs11)), row 5 1 (.slice A9 zs11.length c10) zs11.length (nums .u8 zs11)] (r_Equal_spec A52 c53 zs54 A38 c39 (zs24 ++ zs32) zs54.length ((zs24 ++ zs32).length) hp57 (by first | assumption | omega | (simp only [List.length_append, List.length_cons, List.length_nil, List.length_set, List.length_replicate, List.length_take, List.length_drop]; omega) | (simp only [fits] at *; omega) | (simp only [List.length_append, List.length_cons, List.length_nil, List.length_set, List.length_replicate, List.length_take, List.length_drop] at *; omega) | (simp; done) | decide) (by (repeat first | assumption | (simp only [fits]; omega) | with_reducible first | exact fits_wrap _ _ | exact fits_bits2 _ _ _ _ | exact In.nil _ | exact In.sb _ | exact In.replicate _ _ | apply In.append | apply In.cons | apply In.set | apply In.take | apply In.drop | apply In.rev)) (by first | assumption | omega | (simp only [List.length_append, List.length_cons, List.length_nil, List.length_set, List.length_replicate, List.length_take, List.length_drop]; omega) | (simp only [fits] at *; omega) | (simp only [List.length_append, List.length_cons, List.length_nil, List.length_set, List.length_replicate, List.length_take, List.length_drop] at *; omega) | (simp; done) | decide) (by first | rfl | assumption | omega | (simp only [List.length_append, List.length_cons, List.length_nil, List.length_set, List.length_replicate, List.length_take, List.length_drop]; omega) | (simp; done)) (by first | rfl | assumption | omega | (simp only [List.length_append, List.length_cons, List.length_nil, List.length_set, List.length_replicate, List.length_take, List.length_drop]; omega) | (simp; done))) [] (by kernel_rfl) (((Lend.nil _).tells 2 (row 5 1 (.slice A38 ((zs24 ++ zs32).length) c39) ((zs24 ++ zs32).length) (nums .u8 (zs24 ++ zs32))) A38 (nums .u8 (zs24 ++ zs32)) (by kernel_rfl) (tells_row _ _ _ _ _ _)).tells 0 (row 5 1 (.slice A52 zs54.length c53) zs54.length (nums .u8 zs54)) A52 (nums .u8 zs54) (by kernel_rfl) (tells_row _ _ _ _ _ _)) ?_)
  rintro _ _ ⟨rfl, rfl⟩
  refine RunR.sil hU [] 2 11 [0, 2, 6, 34] [(0, .int .u64 v), (2, .bool false), (6, .slice A38 ((zs24 ++ zs32).length) c39), (34, .bool (decide (zs54 = (zs24 ++ zs32))))] ((True) ∧ (True) ∧ True) rfl (by kernel_rfl) ⟨trivial, trivial, trivial⟩ ?_
  refine RunR.env [0, 2, 6, 34] [(0, .int .u64 v), (2, .bool false), (6, .slice A38 ((zs24 ++ zs32).length) c39), (34, .bool (decide (zs54 = (zs24 ++ zs32))))] (by kernel_rfl) ?_
  have hk60 : (zs54 = (zs24 ++ zs32)) := by subst_vars; first | exact (halves hv).symm | exact (halvesBig hv).symm
  refine RunR.enveq [(0, .int .u64 v), (2, .bool false), (6, .slice A38 ((zs24 ++ zs32).length) c39), (34, .bool true)] (by rw [decide_eq_true hk60]; try rfl) ?_
  refine RunR.sil hU [] 1 12 [2, 6, 34, 35] [(2, .bool false), (6, .slice A38 ((zs24 ++ zs32).length) c39), (34, .bool true), (35, .int .u64 v)] ((True) ∧ True) rfl (by kernel_rfl) ⟨trivial, trivial⟩ ?_
  refine RunR.step (dst := some 36) (op := .call { callee := .value (.func 29), args := #[.tmp 35], argTypes := #[31] }) (by kernel_rfl) (Step.call 29 [.int .u64 v] (by kernel_rfl) (by kernel_rfl) [] [] [row 5 1 (.slice A52 zs54.length c53) zs54.length (nums .u8 zs54), row 5 1 (.slice A43 zs45.length c44) zs45.length (nums .u8 zs45), row 5 1 (.slice A38 ((zs24 ++ zs32).length) c39) ((zs24 ++ zs32).length) (nums .u8 (zs24 ++ zs32)), row 5 1 (.slice A30 zs32.length c31) zs32.length (nums .u8 zs32), row 5 1 (.slice A17 ((zs3 ++ zs11).length) c18) ((zs3 ++ zs11).length) (nums .u8 (zs3 ++ zs11)), row 5 1 (.slice A9 zs11.length c10) zs11.length (nums .u8 zs11)] (w_Put64_spec v (by first | assumption | exact fits_wrap _ _ | exact fits_bits2 _ _ _ _ | (refine ⟨?_, ?_⟩ <;> omega))) [] (by kernel_rfl) (Lend.nil _) ?_)
  rintro _ _ ⟨A61, c62, zs63, rfl, rfl, hp64, hp65, hp66, hp67, hp68⟩
  refine RunR.sil hU [] 1 14 [2, 34, 36, 37] [(2, .bool false), (34, .bool true), (36, .slice A61 zs63.length c62), (37, .slice A38 ((zs24 ++ zs32).length) c39)] ((True) ∧ True) rfl (by kernel_rfl) ⟨trivial, trivial⟩ ?_
  refine RunR.step (dst := some 38) (op := .call { callee := .value (.func 31), args := #[.tmp 37], argTypes := #[22] }) (by kernel_rfl) (Step.call 31 [.slice A38 ((zs24 ++ zs32).length) c39] (by kernel_rfl) (by kernel_rfl) [] [vw A38 (nums .u8 (zs24 ++ zs32))] [row 5 1 (.slice A61 zs63.length c62) zs63.length (nums .u8 zs63), row 5 1 (.slice A52 zs54.length c53) zs54.length (nums .u8 zs54), row 5 1 (.slice A43 zs45.length c44) zs45.length (nums .u8 zs45), row 5 1 (.slice A38 ((zs24 ++ zs32).length) c39) ((zs24 ++ zs32).length) (nums .u8 (zs24 ++ zs32)), row 5 1 (.slice A30 zs32.length c31) zs32.length (nums .u8 zs32), row 5 1 (.slice A17 ((zs3 ++ zs11).length) c18) ((zs3 ++ zs11).length) (nums .u8 (zs3 ++ zs11)), row 5 1 (.slice A9 zs11.length c10) zs11.length (nums .u8 zs11)] (r_Back_spec A38 c39 (zs24 ++ zs32) ((zs24 ++ zs32).length) (by (repeat first | assumption | (simp only [fits]; omega) | with_reducible first | exact fits_wrap _ _ | exact fits_bits2 _ _ _ _ | exact In.nil _ | exact In.sb _ | exact In.replicate _ _ | apply In.append | apply In.cons | apply In.set | apply In.take | apply In.drop | apply In.rev)) (by first | assumption | omega | (simp only [List.length_append, List.length_cons, List.length_nil, List.length_set, List.length_replicate, List.length_take, List.length_drop]; omega) | (simp only [fits] at *; omega) | (simp only [List.length_append, List.length_cons, List.length_nil, List.length_set, List.length_replicate, List.length_take, List.length_drop] at *; omega) | (simp; done) | decide) (by first | rfl | assumption | omega | (simp only [List.length_append, List.length_cons, List.length_nil, List.length_set, List.length_replicate, List.length_take, List.length_drop]; omega) | (simp; done))) [] (by kernel_rfl) ((Lend.nil _).tells 3 (row 5 1 (.slice A38 ((zs24 ++ zs32).length) c39) ((zs24 ++ zs32).length) (nums .u8 (zs24 ++ zs32))) A38 (nums .u8 (zs24 ++ zs32)) (by kernel_rfl) (tells_row _ _ _ _ _ _)) ?_)
  rintro _ _ ⟨A269, c270, zs71, rfl, rfl, hp72, hp73, hp74, hp75, hp76⟩
  refine RunR.step (dst := some 39) (op := .call { callee := .value (.func 18), args := #[.tmp 36, .tmp 38], argTypes := #[22, 22] }) (by kernel_rfl) (Step.call 18 [.slice A61 zs63.length c62, .slice A269 zs71.length c270] (by kernel_rfl) (by kernel_rfl) [] [vw A61 (nums .u8 zs63), vw A269 (nums .u8 zs71)] [row 5 1 (.slice A269 zs71.length c270) zs71.length (nums .u8 zs71), row 5 1 (.slice A61 zs63.length c62) zs63.length (nums .u8 zs63), row 5 1 (.slice A52 zs54.length c53) zs54.length (nums .u8 zs54), row 5 1 (.slice A43 zs45.length c44) zs45.length (nums .u8 zs45), row 5 1 (.slice A38 ((zs24 ++ zs32).length) c39) ((zs24 ++ zs32).length) (nums .u8 (zs24 ++ zs32)), row 5 1 (.slice A30 zs32.length c31) zs32.length (nums .u8 zs32), row 5 1 (.slice A17 ((zs3 ++ zs11).length) c18) ((zs3 ++ zs11).length) (nums .u8 (zs3 ++ zs11)), row 5 1 (.slice A9 zs11.length c10) zs11.length (nums .u8 zs11)] (r_Equal_spec A61 c62 zs63 A269 c270 zs71 zs63.length zs71.length hp66 (by first | assumption | omega | (simp only [List.length_append, List.length_cons, List.length_nil, List.length_set, List.length_replicate, List.length_take, List.length_drop]; omega) | (simp only [fits] at *; omega) | (simp only [List.length_append, List.length_cons, List.length_nil, List.length_set, List.length_replicate, List.length_take, List.length_drop] at *; omega) | (simp; done) | decide) hp74 (by first | assumption | omega | (simp only [List.length_append, List.length_cons, List.length_nil, List.length_set, List.length_replicate, List.length_take, List.length_drop]; omega) | (simp only [fits] at *; omega) | (simp only [List.length_append, List.length_cons, List.length_nil, List.length_set, List.length_replicate, List.length_take, List.length_drop] at *; omega) | (simp; done) | decide) (by first | rfl | assumption | omega | (simp only [List.length_append, List.length_cons, List.length_nil, List.length_set, List.length_replicate, List.length_take, List.length_drop]; omega) | (simp; done)) (by first | rfl | assumption | omega | (simp only [List.length_append, List.length_cons, List.length_nil, List.length_set, List.length_replicate, List.length_take, List.length_drop]; omega) | (simp; done))) [] (by kernel_rfl) (((Lend.nil _).tells 0 (row 5 1 (.slice A269 zs71.length c270) zs71.length (nums .u8 zs71)) A269 (nums .u8 zs71) (by kernel_rfl) (tells_row _ _ _ _ _ _)).tells 1 (row 5 1 (.slice A61 zs63.length c62) zs63.length (nums .u8 zs63)) A61 (nums .u8 zs63) (by kernel_rfl) (tells_row _ _ _ _ _ _)) ?_)
  rintro _ _ ⟨rfl, rfl⟩
  refine RunR.sil hU [] 2 18 [2] [(2, .bool (decide (zs63 = zs71)))] ((True) ∧ (True) ∧ True) rfl (by kernel_rfl) ⟨trivial, trivial, trivial⟩ ?_
  refine RunR.env [2] [(2, .bool (decide (zs63 = zs71)))] (by kernel_rfl) ?_
  have hk77 : (zs63 = zs71) := by subst_vars; rw [halvesBig hv]; simp
  refine RunR.enveq [(2, .bool true)] (by rw [decide_eq_true hk77]; try rfl) ?_
  refine RunR.done (by kernel_rfl) ?_
  refine kseq_n ?_
  refine RunC.ret ?_
  refine kret_r [.bool true] [] [] ⟨rfl, trivial⟩ (by kernel_rfl) rfl ⟨rfl, rfl⟩
end Go.Proofs.Ytcpohiegijpghaa.LWordHalves
