/- What these functions compute: a contract for each, walked through its code. -/
import Derived.Test.YtbnjcfhnbjaoiaaMPure
import Derived.Test.YtbnjcfhnbjaoiaaProg
import Derived.Test.YtbnjcfhnbjaoiaaX1
import Derived.Test.YtbnjcfhnbjaoiaaX2
import Derived.Test.YtbnjcfhnbjaoiaaX3
import Derived.Test.YtbnjcfhnbjaoiaaX4
import Derived.Test.YtbnjcfhnbjaoiaaX5
import Derived.Test.YtbnjcfhnbjaoiaaX6
import Derived.Test.YtbnjcfhnbjaoiaaX7
namespace Go.Proofs.Ytbnjcfhnbjaoiaa.X8
open Go Go.Proofs.Ytbnjcfhnbjaoiaa.SL Go.Proofs.Ytbnjcfhnbjaoiaa.SL.W Go.Proofs.Ytbnjcfhnbjaoiaa.SL.C Go.Proofs.Ytbnjcfhnbjaoiaa.SL.H Go.Proofs.Ytbnjcfhnbjaoiaa.SL.M Go.Proofs.Ytbnjcfhnbjaoiaa.X1 Go.Proofs.Ytbnjcfhnbjaoiaa.X2 Go.Proofs.Ytbnjcfhnbjaoiaa.X3 Go.Proofs.Ytbnjcfhnbjaoiaa.X4 Go.Proofs.Ytbnjcfhnbjaoiaa.X5 Go.Proofs.Ytbnjcfhnbjaoiaa.X6 Go.Proofs.Ytbnjcfhnbjaoiaa.X7
set_option linter.unusedVariables false
set_option linter.unusedSimpArgs false
set_option maxRecDepth 100000
set_option maxHeartbeats 40000000
def U : Tab where
  und := [(3, .int .i64), (5, .int .u8), (22, .slice 5), (24, .int .u64), (49, .int .u32), (94, .slice 49)]
  fld := []
  sz := [(3, 1), (5, 1), (22, 1), (24, 1), (49, 1), (94, 1)]
  ti := [(3, (1, 8, .int .i64 0)), (5, (1, 1, .int .u8 0)), (22, (1, 24, .slice none 0 0)), (24, (1, 8, .int .u64 0)), (49, (1, 4, .int .u32 0)), (94, (1, 24, .slice none 0 0))]
  bld := []

theorem hU : U.OK Try.prog where
  und := by
    intro p hp
    simp only [U, List.mem_cons, List.not_mem_nil, or_false] at hp
    rcases hp with rfl | rfl | rfl | rfl | rfl | rfl
    · exact Try.underlying3
    · exact Try.underlying5
    · exact Try.underlying22
    · exact Try.underlying24
    · exact Try.underlying49
    · exact Try.underlying94
  fld := by
    intro p hp; cases hp
  sz := by
    intro p hp
    simp only [U, List.mem_cons, List.not_mem_nil, or_false] at hp
    rcases hp with rfl | rfl | rfl | rfl | rfl | rfl
    · exact ⟨Try.prog.types[3]!, by kernel_rfl, by kernel_rfl⟩
    · exact ⟨Try.prog.types[5]!, by kernel_rfl, by kernel_rfl⟩
    · exact ⟨Try.prog.types[22]!, by kernel_rfl, by kernel_rfl⟩
    · exact ⟨Try.prog.types[24]!, by kernel_rfl, by kernel_rfl⟩
    · exact ⟨Try.prog.types[49]!, by kernel_rfl, by kernel_rfl⟩
    · exact ⟨Try.prog.types[94]!, by kernel_rfl, by kernel_rfl⟩
  ti := by
    intro p hp
    simp only [U, List.mem_cons, List.not_mem_nil, or_false] at hp
    rcases hp with rfl | rfl | rfl | rfl | rfl | rfl
    · exact ⟨Try.prog.types[3]!, by kernel_rfl, by kernel_rfl, by kernel_rfl, by kernel_rfl⟩
    · exact ⟨Try.prog.types[5]!, by kernel_rfl, by kernel_rfl, by kernel_rfl, by kernel_rfl⟩
    · exact ⟨Try.prog.types[22]!, by kernel_rfl, by kernel_rfl, by kernel_rfl, by kernel_rfl⟩
    · exact ⟨Try.prog.types[24]!, by kernel_rfl, by kernel_rfl, by kernel_rfl, by kernel_rfl⟩
    · exact ⟨Try.prog.types[49]!, by kernel_rfl, by kernel_rfl, by kernel_rfl, by kernel_rfl⟩
    · exact ⟨Try.prog.types[94]!, by kernel_rfl, by kernel_rfl, by kernel_rfl, by kernel_rfl⟩
  bld := by
    intro p hp; cases hp
  mixed := by kernel_rfl

theorem hr_Of_spec (A : Option Addr) (c : Nat) (bs : List Int) (l_bs : Nat) (hb : In .u8 bs) (hbl : bs.length ≤ 140737488351232) (hl_bs : bs.length = l_bs) :
    CallsS Try.prog 47 [.slice A l_bs c] [vw A (nums .u8 bs)] (fun r D => ∃ (A2 : Option Addr) (c2 : Nat) (zs : List Int), r = .slice A2 zs.length c2 ∧ D = [row 5 1 (.slice A2 zs.length c2) zs.length (nums .u8 zs)] ∧ (zs = digest bs) ∧ (zs.length = 32) ∧ (In .u8 zs) ∧ (zs.length ≤ c2) ∧ (0 < zs.length → Option.isSome A2 = true)) := by
  subst hl_bs
  refine CallsS.enter hU Try.f47 _ [.tmp 2] 41 Try.func47 rfl (by decide) rfl rfl (by kernel_rfl) fun w0 W => ?_
  refine RunC.know (p := 0 < bs.length → Option.isSome A = true) (fun w hs => vw_some hs 0 rfl (by simp [nums_length])) (fun hA1 => ?_)
  refine RunC.seq ?_
  refine RunC.region ?_
  refine RunR.sil hU [] 1 1 [0, 2] [(0, .slice A bs.length c), (2, .slice none 0 0)] ((True) ∧ True) rfl (by kernel_rfl) ⟨trivial, trivial⟩ ?_
  refine RunR.done (by kernel_rfl) ?_
  refine kseq_n ?_
  refine RunC.seq ?_
  refine RunC.region ?_
  refine RunR.sil hU [] 1 1 [2, 9] [(2, .slice none 0 0), (9, .slice A bs.length c)] ((True) ∧ True) rfl (by kernel_rfl) ⟨trivial, trivial⟩ ?_
  refine RunR.step (dst := some 10) (op := .call { callee := .value (.func 64), args := #[.tmp 9], argTypes := #[22] }) (by kernel_rfl) (Step.call 64 [.slice A bs.length c] (by kernel_rfl) (by kernel_rfl) [] [vw A (nums .u8 bs)] [vw A (nums .u8 bs)] (hr_Pad_spec A c bs bs.length hb (by first | assumption | omega | (simp only [List.length_append, List.length_cons, List.length_nil, List.length_set, List.length_replicate, List.length_take, List.length_drop]; omega) | (simp only [fits] at *; omega) | (simp only [List.length_append, List.length_cons, List.length_nil, List.length_set, List.length_replicate, List.length_take, List.length_drop] at *; omega) | (simp; done) | decide) (by first | rfl | assumption | omega | (simp only [List.length_append, List.length_cons, List.length_nil, List.length_set, List.length_replicate, List.length_take, List.length_drop]; omega) | (simp; done))) [] (by kernel_rfl) ((Lend.nil _).tells 0 (vw A (nums .u8 bs)) A (nums .u8 bs) (by kernel_rfl) (tells_vw _ _)) ?_)
  rintro _ _ ⟨A22, c23, zs4, rfl, rfl, hp5, hp6, hp7, hp8⟩
  refine RunR.sil hU [] 1 3 [2, 3] [(2, .slice none 0 0), (3, .slice A22 zs4.length c23)] ((True) ∧ True) rfl (by kernel_rfl) ⟨trivial, trivial⟩ ?_
  refine RunR.done (by kernel_rfl) ?_
  refine kseq_n ?_
  refine RunC.seq ?_
  refine RunC.region ?_
  refine RunR.step (dst := some 11) (op := .call { callee := .value (.func 65), args := #[], argTypes := #[] }) (by kernel_rfl) (Step.call 65 [] (by kernel_rfl) (by kernel_rfl) [] [] [row 5 1 (.slice A22 zs4.length c23) zs4.length (nums .u8 zs4), vw A (nums .u8 bs)] (hr_H_spec) [] (by kernel_rfl) (Lend.nil _) ?_)
  rintro _ _ ⟨A29, c210, zs11, rfl, rfl, hp12, hp13, hp14, hp15, hp16⟩
  refine RunR.sil hU [] 1 2 [2, 3, 4] [(2, .slice none 0 0), (3, .slice A22 zs4.length c23), (4, .slice A29 zs11.length c210)] ((True) ∧ True) rfl (by kernel_rfl) ⟨trivial, trivial⟩ ?_
  refine RunR.done (by kernel_rfl) ?_
  refine kseq_n ?_
  refine RunC.seq ?_
  refine RunC.region ?_
  refine RunR.step (dst := some 12) (op := .call { callee := .value (.func 66), args := #[], argTypes := #[] }) (by kernel_rfl) (Step.call 66 [] (by kernel_rfl) (by kernel_rfl) [] [] [row 49 1 (.slice A29 zs11.length c210) zs11.length (nums .u32 zs11), row 5 1 (.slice A22 zs4.length c23) zs4.length (nums .u8 zs4), vw A (nums .u8 bs)] (hr_K_spec) [] (by kernel_rfl) (Lend.nil _) ?_)
  rintro _ _ ⟨A217, c218, zs19, rfl, rfl, hp20, hp21, hp22, hp23, hp24⟩
  refine RunR.sil hU [] 1 2 [2, 3, 4, 5] [(2, .slice none 0 0), (3, .slice A22 zs4.length c23), (4, .slice A29 zs11.length c210), (5, .slice A217 zs19.length c218)] ((True) ∧ True) rfl (by kernel_rfl) ⟨trivial, trivial⟩ ?_
  refine RunR.done (by kernel_rfl) ?_
  refine kseq_n ?_
  refine RunC.seq ?_
  refine RunC.seq ?_
  refine RunC.region ?_
  refine RunR.sil hU [] 1 1 [2, 3, 4, 5, 6] [(2, .slice none 0 0), (3, .slice A22 zs4.length c23), (4, .slice A29 zs11.length c210), (5, .slice A217 zs19.length c218), (6, .int .i64 0)] ((True) ∧ True) rfl (by kernel_rfl) ⟨trivial, trivial⟩ ?_
  refine RunR.done (by kernel_rfl) ?_
  refine kseq_n ?_
  refine RunC.block ?_
  have hpl : zs4.length = 64 * ((bs.length + 72) / 64) := by simp only [hp5, hp12, hp20]; exact padded_len bs
  refine RunC.env [2, 3, 4, 5, 6] [(2, .slice none 0 0), (3, .slice A22 zs4.length c23), (4, .slice A29 zs11.length c210), (5, .slice A217 zs19.length c218), (6, .int .i64 0)] (by kernel_rfl) ?_
  refine RunC.only [1, 0, 0, 0] [row 49 1 (.slice A29 zs11.length c210) zs11.length (nums .u32 zs11), row 49 1 (.slice A217 zs19.length c218) zs19.length (nums .u32 zs19), row 5 1 (.slice A22 zs4.length c23) zs4.length (nums .u8 zs4), vw A (nums .u8 bs)] (by kernel_rfl) ?_
  refine RunC.loop (σ := Nat) (fun n_ t_ D_ => ∃ (i : Int) (ss : List Int) (A4 : Option Addr) (c4 : Nat), (0 ≤ i) ∧ (i ≤ zs4.length) ∧ (i % 64 = 0) ∧ (ss = sta (padded bs) (i / 64).toNat) ∧ (ss.length = 8) ∧ (In .u32 ss) ∧ (ss.length ≤ c4) ∧ (0 < ss.length → Option.isSome A4 = true) ∧ n_ = ((zs4.length - i).toNat : Nat) ∧ t_ = [(2, .slice none 0 0), (3, .slice A22 zs4.length c23), (4, .slice A4 ss.length c4), (5, .slice A217 zs19.length c218), (6, .int .i64 i)] ∧ D_ = [row 49 1 (.slice A4 ss.length c4) ss.length (nums .u32 ss), row 49 1 (.slice A217 zs19.length c218) zs19.length (nums .u32 zs19), row 5 1 (.slice A22 zs4.length c23) zs4.length (nums .u8 zs4), vw A (nums .u8 bs)]) id _ ⟨0, zs11, A29, c210, (by first | assumption | omega | (simp only [List.length_append, List.length_cons, List.length_nil, List.length_set, List.length_replicate, List.length_take, List.length_drop]; omega) | (simp only [fits] at *; omega) | (simp only [List.length_append, List.length_cons, List.length_nil, List.length_set, List.length_replicate, List.length_take, List.length_drop] at *; omega) | (simp; done) | decide), (by first | assumption | omega | (simp only [List.length_append, List.length_cons, List.length_nil, List.length_set, List.length_replicate, List.length_take, List.length_drop]; omega) | (simp only [fits] at *; omega) | (simp only [List.length_append, List.length_cons, List.length_nil, List.length_set, List.length_replicate, List.length_take, List.length_drop] at *; omega) | (simp; done) | decide), (by first | assumption | omega | (simp only [List.length_append, List.length_cons, List.length_nil, List.length_set, List.length_replicate, List.length_take, List.length_drop]; omega) | (simp only [fits] at *; omega) | (simp only [List.length_append, List.length_cons, List.length_nil, List.length_set, List.length_replicate, List.length_take, List.length_drop] at *; omega) | (simp; done) | decide), (by assumption), (by first | rfl | assumption | omega | (simp only [List.length_append, List.length_cons, List.length_nil, List.length_set, List.length_replicate, List.length_take, List.length_drop]; omega) | (simp; done)), hp14, (by first | assumption | omega | (simp only [List.length_append, List.length_cons, List.length_nil, List.length_set, List.length_replicate, List.length_take, List.length_drop]; omega) | (simp only [fits] at *; omega) | (simp only [List.length_append, List.length_cons, List.length_nil, List.length_set, List.length_replicate, List.length_take, List.length_drop] at *; omega) | (simp; done) | decide), (fun h => hp16 (by first | exact h | (simp at h ⊢; omega))), rfl, rfl, rfl⟩ ?_
  rintro n_ _ _ ⟨i, ss, A4, c4, hi, hi2, hi3, hs, hsl, hiss, hcss, hAss, rfl, rfl, rfl⟩
  refine RunC.seq ?_
  refine RunC.seq ?_
  refine RunC.region ?_
  refine RunR.sil hU [] 4 4 [2, 3, 4, 5, 6, 16] [(2, .slice none 0 0), (3, .slice A22 zs4.length c23), (4, .slice A4 ss.length c4), (5, .slice A217 zs19.length c218), (6, .int .i64 i), (16, .bool (decide (i < ((zs4.length : Nat) : Int))))] ((True) ∧ (True) ∧ (True) ∧ (True) ∧ True) rfl (by kernel_rfl) ⟨trivial, trivial, trivial, trivial, trivial⟩ ?_
  refine RunR.done (by kernel_rfl) ?_
  refine kseq_n ?_
  refine RunC.condp (i < ((zs4.length : Nat) : Int)) (by kernel_rfl) (fun h25 => ?_) (fun h25 => ?_)
  · skip
    refine RunC.skip ?_
    refine kseq_n ?_
    refine RunC.seq ?_
    refine RunC.block ?_
    refine RunC.region ?_
    refine RunR.sil hU [5] 7 7 [2, 3, 4, 5, 6, 19, 20, 25] [(2, .slice none 0 0), (3, .slice A22 zs4.length c23), (4, .slice A4 ss.length c4), (5, .slice A217 zs19.length c218), (6, .int .i64 i), (19, .slice A4 ss.length c4), (20, .slice A217 zs19.length c218), (25, .slice (subBase A22 ((i).toNat) c23 1) (((i + 64).toNat) - ((i).toNat)) (c23 - ((i).toNat)))] ((True) ∧ (True) ∧ (True) ∧ (True) ∧ (True) ∧ (-9223372036854775808 ≤ (i + 64) ∧ (i + 64) < 9223372036854775808) ∧ (0 ≤ i ∧ i ≤ (i + 64) ∧ (i + 64) ≤ ((c23 : Nat) : Int)) ∧ True) rfl (by kernel_rfl) ⟨trivial, trivial, trivial, trivial, trivial, (by omega), (by omega), trivial⟩ ?_
    obtain ⟨zs26, hz27⟩ : ∃ z : List Int, z = (zs4.drop ((i).toNat)).take (((i + 64).toNat) - ((i).toNat)) := ⟨_, rfl⟩
    have hl28 : zs26.length = ((i + 64).toNat) - ((i).toNat) := by rw [hz27, List.length_take, List.length_drop]; omega
    have hB30_t : Tells (row 5 1 (.slice A22 zs4.length c23) zs4.length (nums .u8 zs4)) (subBase A22 ((i).toNat) c23 1) (nums .u8 zs26) := by rw [hz27]; exact tells_sub_nums (tells_row _ _ _ _ _ _) _ _ _ (by omega) (by omega)
    have hA31 : 0 < zs26.length → Option.isSome (subBase A22 ((i).toNat) c23 1) = true := fun h => part_some (hp8 (by omega)) _ _ _
    refine RunR.env [2, 3, 4, 5, 6, 19, 20, 25] [(2, .slice none 0 0), (3, .slice A22 zs4.length c23), (4, .slice A4 ss.length c4), (5, .slice A217 zs19.length c218), (6, .int .i64 i), (19, .slice A4 ss.length c4), (20, .slice A217 zs19.length c218), (25, .slice (subBase A22 ((i).toNat) c23 1) (((i + 64).toNat) - ((i).toNat)) (c23 - ((i).toNat)))] (by kernel_rfl) ?_
    refine RunR.enveq [(2, .slice none 0 0), (3, .slice A22 zs4.length c23), (4, .slice A4 ss.length c4), (5, .slice A217 zs19.length c218), (6, .int .i64 i), (19, .slice A4 ss.length c4), (20, .slice A217 zs19.length c218), (25, .slice (subBase A22 ((i).toNat) c23 1) zs26.length (c23 - ((i).toNat)))] (by rw [hl28]) ?_
    have hr32 : In .u8 zs26 := by rw [hz27]; exact (hp6.drop _).take _
    refine RunR.step (dst := some 26) (op := .call { callee := .value (.func 67), args := #[.tmp 19, .tmp 20, .tmp 25], argTypes := #[94, 94, 22] }) (by kernel_rfl) (Step.call 67 [.slice A4 ss.length c4, .slice A217 zs19.length c218, .slice (subBase A22 ((i).toNat) c23 1) zs26.length (c23 - ((i).toNat))] (by kernel_rfl) (by kernel_rfl) [] [vw A4 (nums .u32 ss), vw A217 (nums .u32 zs19), vw (subBase A22 ((i).toNat) c23 1) (nums .u8 zs26)] [row 49 1 (.slice A4 ss.length c4) ss.length (nums .u32 ss), row 49 1 (.slice A217 zs19.length c218) zs19.length (nums .u32 zs19), row 5 1 (.slice A22 zs4.length c23) zs4.length (nums .u8 zs4), vw A (nums .u8 bs)] (hr_Work_spec A4 c4 ss A217 c218 zs19 (subBase A22 ((i).toNat) c23 1) (c23 - ((i).toNat)) zs26 ss.length zs19.length zs26.length (by first | rfl | assumption | omega | (simp only [List.length_append, List.length_cons, List.length_nil, List.length_set, List.length_replicate, List.length_take, List.length_drop]; omega) | (simp; done)) hiss (by first | assumption | omega | (simp only [List.length_append, List.length_cons, List.length_nil, List.length_set, List.length_replicate, List.length_take, List.length_drop]; omega) | (simp only [fits] at *; omega) | (simp only [List.length_append, List.length_cons, List.length_nil, List.length_set, List.length_replicate, List.length_take, List.length_drop] at *; omega) | (simp; done) | decide) (by first | rfl | assumption | omega | (simp only [List.length_append, List.length_cons, List.length_nil, List.length_set, List.length_replicate, List.length_take, List.length_drop]; omega) | (simp; done)) hr32 (by first | rfl | assumption | omega | (simp only [List.length_append, List.length_cons, List.length_nil, List.length_set, List.length_replicate, List.length_take, List.length_drop]; omega) | (simp; done)) (by first | assumption | omega | (simp only [List.length_append, List.length_cons, List.length_nil, List.length_set, List.length_replicate, List.length_take, List.length_drop]; omega) | (simp only [fits] at *; omega) | (simp only [List.length_append, List.length_cons, List.length_nil, List.length_set, List.length_replicate, List.length_take, List.length_drop] at *; omega) | (simp; done) | decide) (by first | rfl | assumption | omega | (simp only [List.length_append, List.length_cons, List.length_nil, List.length_set, List.length_replicate, List.length_take, List.length_drop]; omega) | (simp; done)) (by first | rfl | assumption | omega | (simp only [List.length_append, List.length_cons, List.length_nil, List.length_set, List.length_replicate, List.length_take, List.length_drop]; omega) | (simp; done)) (by first | rfl | assumption | omega | (simp only [List.length_append, List.length_cons, List.length_nil, List.length_set, List.length_replicate, List.length_take, List.length_drop]; omega) | (simp; done))) [] (by kernel_rfl) ((((Lend.nil _).tells 2 (row 5 1 (.slice A22 zs4.length c23) zs4.length (nums .u8 zs4)) (subBase A22 ((i).toNat) c23 1) (nums .u8 zs26) (by kernel_rfl) (hB30_t)).tells 1 (row 49 1 (.slice A217 zs19.length c218) zs19.length (nums .u32 zs19)) A217 (nums .u32 zs19) (by kernel_rfl) (tells_row _ _ _ _ _ _)).tells 0 (row 49 1 (.slice A4 ss.length c4) ss.length (nums .u32 ss)) A4 (nums .u32 ss) (by kernel_rfl) (tells_row _ _ _ _ _ _)) ?_)
    rintro _ _ ⟨A233, c234, zs35, rfl, rfl, hp36, hp37, hp38, hp39, hp40⟩
    refine RunR.sil hU [] 1 9 [2, 3, 4, 5, 6] [(2, .slice none 0 0), (3, .slice A22 zs4.length c23), (4, .slice A233 zs35.length c234), (5, .slice A217 zs19.length c218), (6, .int .i64 i)] ((True) ∧ True) rfl (by kernel_rfl) ⟨trivial, trivial⟩ ?_
    refine RunR.done (by kernel_rfl) ?_
    refine kblock_n ?_
    refine kseq_n ?_
    refine RunC.region ?_
    refine RunR.sil hU [1] 3 3 [2, 3, 4, 5, 6] [(2, .slice none 0 0), (3, .slice A22 zs4.length c23), (4, .slice A233 zs35.length c234), (5, .slice A217 zs19.length c218), (6, .int .i64 (i + 64))] ((True) ∧ (-9223372036854775808 ≤ (i + 64) ∧ (i + 64) < 9223372036854775808) ∧ (True) ∧ True) rfl (by kernel_rfl) ⟨trivial, (by omega), trivial, trivial⟩ ?_
    refine RunR.done (by kernel_rfl) ?_
    refine kloop_n _ [2, 3, 4, 5, 6] [0, 1, 1, 1] [(2, .slice none 0 0), (3, .slice A22 zs4.length c23), (4, .slice A233 zs35.length c234), (5, .slice A217 zs19.length c218), (6, .int .i64 (i + 64))] [row 49 1 (.slice A233 zs35.length c234) zs35.length (nums .u32 zs35), row 49 1 (.slice A217 zs19.length c218) zs19.length (nums .u32 zs19), row 5 1 (.slice A22 zs4.length c23) zs4.length (nums .u8 zs4), vw A (nums .u8 bs)] (by kernel_rfl) (by kernel_rfl) ?_ ⟨(i + 64), zs35, A233, c234, (by first | assumption | omega | (simp only [List.length_append, List.length_cons, List.length_nil, List.length_set, List.length_replicate, List.length_take, List.length_drop]; omega) | (simp only [fits] at *; omega) | (simp only [List.length_append, List.length_cons, List.length_nil, List.length_set, List.length_replicate, List.length_take, List.length_drop] at *; omega) | (simp; done) | decide), (by first | assumption | omega | (simp only [List.length_append, List.length_cons, List.length_nil, List.length_set, List.length_replicate, List.length_take, List.length_drop]; omega) | (simp only [fits] at *; omega) | (simp only [List.length_append, List.length_cons, List.length_nil, List.length_set, List.length_replicate, List.length_take, List.length_drop] at *; omega) | (simp; done) | decide), (by first | assumption | omega | (simp only [List.length_append, List.length_cons, List.length_nil, List.length_set, List.length_replicate, List.length_take, List.length_drop]; omega) | (simp only [fits] at *; omega) | (simp only [List.length_append, List.length_cons, List.length_nil, List.length_set, List.length_replicate, List.length_take, List.length_drop] at *; omega) | (simp; done) | decide), (by simp only [hp5, hp12, hp20, hz27, hp36]; exact sta_step hi hi3 hs (by simp only [hp5, hp12, hp20, hz27, hp36])), (by first | rfl | assumption | omega | (simp only [List.length_append, List.length_cons, List.length_nil, List.length_set, List.length_replicate, List.length_take, List.length_drop]; omega) | (simp; done)), hp38, (by first | assumption | omega | (simp only [List.length_append, List.length_cons, List.length_nil, List.length_set, List.length_replicate, List.length_take, List.length_drop]; omega) | (simp only [fits] at *; omega) | (simp only [List.length_append, List.length_cons, List.length_nil, List.length_set, List.length_replicate, List.length_take, List.length_drop] at *; omega) | (simp; done) | decide), (fun h => hp40 (by first | exact h | (simp at h ⊢; omega))), rfl, (by rfl), (by rfl)⟩
    show ((zs4.length - (i + 64)).toNat : Nat) < ((zs4.length - i).toNat : Nat)
    omega
  · skip
    refine RunC.exit ?_
    refine kseq_e ?_
    refine kloop_e ?_
    refine kblock_e ?_
    refine kseq_n ?_
    refine RunC.seq ?_
    refine RunC.region ?_
    refine RunR.sil hU [] 1 1 [2, 4, 7] [(2, .slice none 0 0), (4, .slice A4 ss.length c4), (7, .slice none 0 0)] ((True) ∧ True) rfl (by kernel_rfl) ⟨trivial, trivial⟩ ?_
    refine RunR.done (by kernel_rfl) ?_
    refine kseq_n ?_
    refine RunC.seq ?_
    refine RunC.seq ?_
    refine RunC.region ?_
    refine RunR.sil hU [] 1 1 [2, 4, 7, 8] [(2, .slice none 0 0), (4, .slice A4 ss.length c4), (7, .slice none 0 0), (8, .int .i64 0)] ((True) ∧ True) rfl (by kernel_rfl) ⟨trivial, trivial⟩ ?_
    refine RunR.done (by kernel_rfl) ?_
    refine kseq_n ?_
    refine RunC.block ?_
    refine RunC.turn ([row 5 1 (.slice none 0 0) 0 (nums .u8 ([] : List Int)), row 49 1 (.slice A4 ss.length c4) ss.length (nums .u32 ss), row 49 1 (.slice A217 zs19.length c218) zs19.length (nums .u32 zs19), row 5 1 (.slice A22 zs4.length c23) zs4.length (nums .u8 zs4), vw A (nums .u8 bs)]) (fun w hs => hs.nil_row 5 1) ?_
    refine RunC.env [2, 4, 7, 8] [(2, .slice none 0 0), (4, .slice A4 ss.length c4), (7, .slice none 0 0), (8, .int .i64 0)] (by kernel_rfl) ?_
    refine RunC.only [0, 0, 0, 0, 0] [row 5 1 (.slice none 0 0) 0 (nums .u8 ([] : List Int)), row 49 1 (.slice A4 ss.length c4) ss.length (nums .u32 ss), row 49 1 (.slice A217 zs19.length c218) zs19.length (nums .u32 zs19), row 5 1 (.slice A22 zs4.length c23) zs4.length (nums .u8 zs4), vw A (nums .u8 bs)] (by kernel_rfl) ?_
    refine RunC.loop (σ := Nat) (fun n_ t_ D_ => ∃ (o : Int) (os : List Int) (A2 : Option Addr) (c2 : Nat), (0 ≤ o) ∧ (o ≤ 8) ∧ (os = outB ss o.toNat) ∧ (os.length = 4 * o.toNat) ∧ (In .u8 os) ∧ (os.length ≤ c2) ∧ (0 < os.length → Option.isSome A2 = true) ∧ n_ = ((8 - o).toNat : Nat) ∧ t_ = [(2, .slice none 0 0), (4, .slice A4 ss.length c4), (7, .slice A2 os.length c2), (8, .int .i64 o)] ∧ D_ = [row 5 1 (.slice A2 os.length c2) os.length (nums .u8 os), row 49 1 (.slice A4 ss.length c4) ss.length (nums .u32 ss), row 49 1 (.slice A217 zs19.length c218) zs19.length (nums .u32 zs19), row 5 1 (.slice A22 zs4.length c23) zs4.length (nums .u8 zs4), vw A (nums .u8 bs)]) id _ ⟨0, ([] : List Int), none, 0, (by first | assumption | omega | (simp only [List.length_append, List.length_cons, List.length_nil, List.length_set, List.length_replicate, List.length_take, List.length_drop]; omega) | (simp only [fits] at *; omega) | (simp only [List.length_append, List.length_cons, List.length_nil, List.length_set, List.length_replicate, List.length_take, List.length_drop] at *; omega) | (simp; done) | decide), (by first | assumption | omega | (simp only [List.length_append, List.length_cons, List.length_nil, List.length_set, List.length_replicate, List.length_take, List.length_drop]; omega) | (simp only [fits] at *; omega) | (simp only [List.length_append, List.length_cons, List.length_nil, List.length_set, List.length_replicate, List.length_take, List.length_drop] at *; omega) | (simp; done) | decide), (by rfl), (by rfl), (by exact In.nil _), (by exact Nat.zero_le _), (by intro h; simp at h), rfl, rfl, rfl⟩ ?_
    rintro n_ _ _ ⟨o, os, A2, c2, ho1, ho2, ho, hol, hios, hcos, hAos, rfl, rfl, rfl⟩
    refine RunC.seq ?_
    refine RunC.seq ?_
    refine RunC.region ?_
    refine RunR.sil hU [] 2 2 [2, 4, 7, 8, 28] [(2, .slice none 0 0), (4, .slice A4 ss.length c4), (7, .slice A2 os.length c2), (8, .int .i64 o), (28, .bool (decide (o < 8)))] ((True) ∧ (True) ∧ True) rfl (by kernel_rfl) ⟨trivial, trivial, trivial⟩ ?_
    refine RunR.done (by kernel_rfl) ?_
    refine kseq_n ?_
    refine RunC.condp (o < 8) (by kernel_rfl) (fun h41 => ?_) (fun h41 => ?_)
    · skip
      refine RunC.skip ?_
      refine kseq_n ?_
      refine RunC.seq ?_
      refine RunC.block ?_
      refine RunC.region ?_
      refine RunR.sil hU [] 4 4 [2, 4, 7, 8, 31, 34] [(2, .slice none 0 0), (4, .slice A4 ss.length c4), (7, .slice A2 os.length c2), (8, .int .i64 o), (31, .slice A2 os.length c2), (34, .pointer (elemAt A4 o 1))] ((True) ∧ (True) ∧ (True) ∧ ((0 ≤ o ∧ o < ((ss.length : Nat) : Int)) ∧ Option.isSome A4 = true) ∧ True) rfl (by kernel_rfl) ⟨trivial, trivial, trivial, ⟨by omega, hAss (by omega)⟩, trivial⟩ ?_
      refine RunR.step (dst := some 35) (op := .load 49 (.tmp 34)) (by kernel_rfl) (Step.load_num hU 1 (row 49 1 (.slice A4 ss.length c4) ss.length (nums .u32 ss)) A4 o .u32 ss rfl (by kernel_rfl) (by kernel_rfl) (tells_row _ _ _ _ _ _) (by kernel_rfl) (by omega) ?_)
      have hb42 : 0 ≤ ss.getD ((o).toNat) 0 ∧ ss.getD ((o).toNat) 0 < 4294967296 := hiss.at_ _
      refine RunR.sil hU [5] 1 6 [2, 4, 7, 8, 31, 36] [(2, .slice none 0 0), (4, .slice A4 ss.length c4), (7, .slice A2 os.length c2), (8, .int .i64 o), (31, .slice A2 os.length c2), (36, .int .u64 (ss.getD (o).toNat 0))] ((0 ≤ (ss.getD (o).toNat 0) ∧ (ss.getD (o).toNat 0) < 18446744073709551616) ∧ True) rfl (by kernel_rfl) ⟨(by omega), trivial⟩ ?_
      refine RunR.step (dst := some 37) (op := .call { callee := .value (.func 69), args := #[.tmp 36, .const (.int .i64 4)], argTypes := #[24, 3] }) (by kernel_rfl) (Step.call 69 [.int .u64 (ss.getD (o).toNat 0), .int .i64 4] (by kernel_rfl) (by kernel_rfl) [] [] [row 5 1 (.slice A2 os.length c2) os.length (nums .u8 os), row 49 1 (.slice A4 ss.length c4) ss.length (nums .u32 ss), row 49 1 (.slice A217 zs19.length c218) zs19.length (nums .u32 zs19), row 5 1 (.slice A22 zs4.length c23) zs4.length (nums .u8 zs4), vw A (nums .u8 bs)] (r_Little_spec (ss.getD (o).toNat 0) 4 (by first | assumption | exact fits_wrap _ _ | exact fits_bits2 _ _ _ _ | (refine ⟨?_, ?_⟩ <;> omega)) (by first | assumption | omega | (simp only [List.length_append, List.length_cons, List.length_nil, List.length_set, List.length_replicate, List.length_take, List.length_drop]; omega) | (simp only [fits] at *; omega) | (simp only [List.length_append, List.length_cons, List.length_nil, List.length_set, List.length_replicate, List.length_take, List.length_drop] at *; omega) | (simp; done) | decide) (by first | assumption | omega | (simp only [List.length_append, List.length_cons, List.length_nil, List.length_set, List.length_replicate, List.length_take, List.length_drop]; omega) | (simp only [fits] at *; omega) | (simp only [List.length_append, List.length_cons, List.length_nil, List.length_set, List.length_replicate, List.length_take, List.length_drop] at *; omega) | (simp; done) | decide)) [] (by kernel_rfl) (Lend.nil _) ?_)
      rintro _ _ ⟨Aq43, cq44, zs45, rfl, rfl, hp46, hp47, hp48, hp49, hp50⟩
      refine RunR.step (dst := some 38) (op := .call { callee := .value (.func 68), args := #[.tmp 37], argTypes := #[22] }) (by kernel_rfl) (Step.call 68 [.slice Aq43 zs45.length cq44] (by kernel_rfl) (by kernel_rfl) [] [vw Aq43 (nums .u8 zs45)] [row 5 1 (.slice Aq43 zs45.length cq44) zs45.length (nums .u8 zs45), row 5 1 (.slice A2 os.length c2) os.length (nums .u8 os), row 49 1 (.slice A4 ss.length c4) ss.length (nums .u32 ss), row 49 1 (.slice A217 zs19.length c218) zs19.length (nums .u32 zs19), row 5 1 (.slice A22 zs4.length c23) zs4.length (nums .u8 zs4), vw A (nums .u8 bs)] (r_Back_spec Aq43 cq44 zs45 zs45.length hp48 (by first | assumption | omega | (simp only [List.length_append, List.length_cons, List.length_nil, List.length_set, List.length_replicate, List.length_take, List.length_drop]; omega) | (simp only [fits] at *; omega) | (simp only [List.length_append, List.length_cons, List.length_nil, List.length_set, List.length_replicate, List.length_take, List.length_drop] at *; omega) | (simp; done) | decide) (by first | rfl | assumption | omega | (simp only [List.length_append, List.length_cons, List.length_nil, List.length_set, List.length_replicate, List.length_take, List.length_drop]; omega) | (simp; done))) [] (by kernel_rfl) ((Lend.nil _).tells 0 (row 5 1 (.slice Aq43 zs45.length cq44) zs45.length (nums .u8 zs45)) Aq43 (nums .u8 zs45) (by kernel_rfl) (tells_row _ _ _ _ _ _)) ?_)
      rintro _ _ ⟨A251, c252, zs53, rfl, rfl, hp54, hp55, hp56, hp57, hp58⟩
      refine RunR.step (dst := some 39) (op := .call { callee := .builtin .append, args := #[.tmp 31, .tmp 38], argTypes := #[22, 22] }) (by kernel_rfl) (Step.append_nums hU 5 1 (.int .u8 0) .u8 2 0 A2 os.length c2 os A251 zs53.length c252 (row 5 1 (.slice A251 zs53.length c252) zs53.length (nums .u8 zs53)) zs53 rfl rfl rfl (by kernel_rfl) (by kernel_rfl) (by kernel_rfl) (by kernel_rfl) (tells_row _ _ _ _ _ _) (by first | rfl | omega | (simp; omega)) (by first | rfl | omega | (simp; omega)) (by omega) (by omega) (by kernel_rfl) (fun Aq59 cq60 hc61 hA62 => ?_))
      have hl63 : (os ++ zs53).length = os.length + zs53.length := List.length_append
      refine RunR.sil hU [] 1 10 [2, 4, 7, 8] [(2, .slice none 0 0), (4, .slice A4 ss.length c4), (7, .slice Aq59 ((os ++ zs53).length) cq60), (8, .int .i64 o)] ((True) ∧ True) rfl (by kernel_rfl) ⟨trivial, trivial⟩ ?_
      refine RunR.done (by kernel_rfl) ?_
      refine kblock_n ?_
      refine kseq_n ?_
      refine RunC.region ?_
      refine RunR.sil hU [1] 3 3 [2, 4, 7, 8] [(2, .slice none 0 0), (4, .slice A4 ss.length c4), (7, .slice Aq59 ((os ++ zs53).length) cq60), (8, .int .i64 (o + 1))] ((True) ∧ (-9223372036854775808 ≤ (o + 1) ∧ (o + 1) < 9223372036854775808) ∧ (True) ∧ True) rfl (by kernel_rfl) ⟨trivial, (by omega), trivial, trivial⟩ ?_
      refine RunR.done (by kernel_rfl) ?_
      refine kloop_n _ [2, 4, 7, 8] [0, 2, 2, 2, 2] [(2, .slice none 0 0), (4, .slice A4 ss.length c4), (7, .slice Aq59 ((os ++ zs53).length) cq60), (8, .int .i64 (o + 1))] [row 5 1 (.slice Aq59 ((os ++ zs53).length) cq60) ((os ++ zs53).length) (nums .u8 (os ++ zs53)), row 49 1 (.slice A4 ss.length c4) ss.length (nums .u32 ss), row 49 1 (.slice A217 zs19.length c218) zs19.length (nums .u32 zs19), row 5 1 (.slice A22 zs4.length c23) zs4.length (nums .u8 zs4), vw A (nums .u8 bs)] (by kernel_rfl) (by kernel_rfl) ?_ ⟨(o + 1), (os ++ zs53), Aq59, cq60, (by first | assumption | omega | (simp only [List.length_append, List.length_cons, List.length_nil, List.length_set, List.length_replicate, List.length_take, List.length_drop]; omega) | (simp only [fits] at *; omega) | (simp only [List.length_append, List.length_cons, List.length_nil, List.length_set, List.length_replicate, List.length_take, List.length_drop] at *; omega) | (simp; done) | decide), (by first | assumption | omega | (simp only [List.length_append, List.length_cons, List.length_nil, List.length_set, List.length_replicate, List.length_take, List.length_drop]; omega) | (simp only [fits] at *; omega) | (simp only [List.length_append, List.length_cons, List.length_nil, List.length_set, List.length_replicate, List.length_take, List.length_drop] at *; omega) | (simp; done) | decide), (by exact outB_step ho1 ho (by simp only [hp5, hp12, hp20, hp46, hp54]; rfl)), (by first | rfl | assumption | omega | (simp only [List.length_append, List.length_cons, List.length_nil, List.length_set, List.length_replicate, List.length_take, List.length_drop]; omega) | (simp; done)), (by (repeat first | assumption | (simp only [fits]; omega) | with_reducible first | exact fits_wrap _ _ | exact fits_bits2 _ _ _ _ | exact In.nil _ | exact In.sb _ | exact In.replicate _ _ | apply In.append | apply In.cons | apply In.set | apply In.take | apply In.drop | apply In.rev)), (by first | assumption | omega | (simp only [List.length_append, List.length_cons, List.length_nil, List.length_set, List.length_replicate, List.length_take, List.length_drop]; omega) | (simp only [fits] at *; omega) | (simp only [List.length_append, List.length_cons, List.length_nil, List.length_set, List.length_replicate, List.length_take, List.length_drop] at *; omega) | (simp; done) | decide), (fun h => hA62 (by first | exact h | (simp at h ⊢; omega))), rfl, (by rfl), (by rfl)⟩
      show ((8 - (o + 1)).toNat : Nat) < ((8 - o).toNat : Nat)
      omega
    · skip
      refine RunC.exit ?_
      refine kseq_e ?_
      refine kloop_e ?_
      refine kblock_e ?_
      refine kseq_n ?_
      refine RunC.seq ?_
      refine RunC.region ?_
      refine RunR.sil hU [] 2 2 [2] [(2, .slice A2 os.length c2)] ((True) ∧ (True) ∧ True) rfl (by kernel_rfl) ⟨trivial, trivial, trivial⟩ ?_
      refine RunR.done (by kernel_rfl) ?_
      refine kseq_n ?_
      refine RunC.ret ?_
      refine kret_r [.slice A2 os.length c2] [0] [row 5 1 (.slice A2 os.length c2) os.length (nums .u8 os)] ⟨rfl, trivial⟩ (by kernel_rfl) rfl ⟨A2, c2, os, rfl, rfl, (by rw [ho, hs, show o = 8 by omega, digest, padded_len, show (i / 64).toNat = 64 * ((bs.length + 72) / 64) / 64 by omega]; rfl), (by omega), (by assumption), (by assumption), (by assumption)⟩
end Go.Proofs.Ytbnjcfhnbjaoiaa.X8
