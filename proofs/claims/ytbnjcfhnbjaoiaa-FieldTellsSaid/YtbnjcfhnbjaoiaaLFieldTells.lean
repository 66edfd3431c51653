/- The law FieldTells returns true whatever it is handed: its walk, on the contracts of what it calls. -/
import Derived.Test.YtbnjcfhnbjaoiaaEPure
import Derived.Test.YtbnjcfhnbjaoiaaProg
import Derived.Test.YtbnjcfhnbjaoiaaX1
import Derived.Test.YtbnjcfhnbjaoiaaX2
import Derived.Test.YtbnjcfhnbjaoiaaX3
import Derived.Test.YtbnjcfhnbjaoiaaX4
import Derived.Test.YtbnjcfhnbjaoiaaX5
import Derived.Test.YtbnjcfhnbjaoiaaX6
import Derived.Test.YtbnjcfhnbjaoiaaX7
import Derived.Test.YtbnjcfhnbjaoiaaX8
import Derived.Test.YtbnjcfhnbjaoiaaX9
import Derived.Test.YtbnjcfhnbjaoiaaY1
import Derived.Test.YtbnjcfhnbjaoiaaY2
import Derived.Test.YtbnjcfhnbjaoiaaY3
import Derived.Test.YtbnjcfhnbjaoiaaY4
import Derived.Test.YtbnjcfhnbjaoiaaY5
import Derived.Test.YtbnjcfhnbjaoiaaY6
import Derived.Test.YtbnjcfhnbjaoiaaY7
import Derived.Test.YtbnjcfhnbjaoiaaY8
namespace Go.Proofs.Ytbnjcfhnbjaoiaa.LFieldTells
open Go Go.Proofs.Ytbnjcfhnbjaoiaa.SL Go.Proofs.Ytbnjcfhnbjaoiaa.SL.W Go.Proofs.Ytbnjcfhnbjaoiaa.SL.C Go.Proofs.Ytbnjcfhnbjaoiaa.SL.F Go.Proofs.Ytbnjcfhnbjaoiaa.SL.N Go.Proofs.Ytbnjcfhnbjaoiaa.SL.E Go.Proofs.Ytbnjcfhnbjaoiaa.X1 Go.Proofs.Ytbnjcfhnbjaoiaa.X2 Go.Proofs.Ytbnjcfhnbjaoiaa.X3 Go.Proofs.Ytbnjcfhnbjaoiaa.X4 Go.Proofs.Ytbnjcfhnbjaoiaa.X5 Go.Proofs.Ytbnjcfhnbjaoiaa.X6 Go.Proofs.Ytbnjcfhnbjaoiaa.X7 Go.Proofs.Ytbnjcfhnbjaoiaa.X8 Go.Proofs.Ytbnjcfhnbjaoiaa.X9 Go.Proofs.Ytbnjcfhnbjaoiaa.Y1 Go.Proofs.Ytbnjcfhnbjaoiaa.Y2 Go.Proofs.Ytbnjcfhnbjaoiaa.Y3 Go.Proofs.Ytbnjcfhnbjaoiaa.Y4 Go.Proofs.Ytbnjcfhnbjaoiaa.Y5 Go.Proofs.Ytbnjcfhnbjaoiaa.Y6 Go.Proofs.Ytbnjcfhnbjaoiaa.Y7 Go.Proofs.Ytbnjcfhnbjaoiaa.Y8
set_option linter.unusedVariables false
set_option linter.unusedSimpArgs false
set_option maxRecDepth 100000
set_option maxHeartbeats 40000000
def U : Tab where
  und := [(24, .int .u64), (25, .array 5 24), (26, .struct #[{ name := "n", type := 25, offset := 0, embedded := false, tag := "", pkgPath := "orlop/field", byteOffset := 0 }]), (27, .struct #[{ name := "n", type := 25, offset := 0, embedded := false, tag := "", pkgPath := "orlop/field", byteOffset := 0 }])]
  fld := [((26, 0), (0, 25)), ((27, 0), (0, 25))]
  sz := [(24, 1), (25, 5), (26, 5), (27, 5)]
  ti := [(24, (1, 8, .int .u64 0)), (25, (5, 40, .agg #[.int .u64 0, .int .u64 0, .int .u64 0, .int .u64 0, .int .u64 0])), (26, (5, 40, .agg #[.int .u64 0, .int .u64 0, .int .u64 0, .int .u64 0, .int .u64 0])), (27, (5, 40, .agg #[.int .u64 0, .int .u64 0, .int .u64 0, .int .u64 0, .int .u64 0]))]
  bld := [(26, [(0, 5)]), (27, [(0, 5)])]

theorem hU : U.OK Try.prog where
  und := by
    intro p hp
    simp only [U, List.mem_cons, List.not_mem_nil, or_false] at hp
    rcases hp with rfl | rfl | rfl | rfl
    · exact Try.underlying24
    · exact Try.underlying25
    · exact Try.underlying26
    · exact Try.underlying27
  fld := by
    intro p hp
    simp only [U, List.mem_cons, List.not_mem_nil, or_false] at hp
    rcases hp with rfl | rfl
    · exact ⟨_, _, Try.underlying26, rfl, rfl, rfl, Try.prog.types[25]!, by kernel_rfl, by decide +kernel⟩
    · exact ⟨_, _, Try.underlying27, rfl, rfl, rfl, Try.prog.types[25]!, by kernel_rfl, by decide +kernel⟩
  sz := by
    intro p hp
    simp only [U, List.mem_cons, List.not_mem_nil, or_false] at hp
    rcases hp with rfl | rfl | rfl | rfl
    · exact ⟨Try.prog.types[24]!, by kernel_rfl, by kernel_rfl⟩
    · exact ⟨Try.prog.types[25]!, by kernel_rfl, by kernel_rfl⟩
    · exact ⟨Try.prog.types[26]!, by kernel_rfl, by kernel_rfl⟩
    · exact ⟨Try.prog.types[27]!, by kernel_rfl, by kernel_rfl⟩
  ti := by
    intro p hp
    simp only [U, List.mem_cons, List.not_mem_nil, or_false] at hp
    rcases hp with rfl | rfl | rfl | rfl
    · exact ⟨Try.prog.types[24]!, by kernel_rfl, by kernel_rfl, by kernel_rfl, by kernel_rfl⟩
    · exact ⟨Try.prog.types[25]!, by kernel_rfl, by kernel_rfl, by kernel_rfl, by kernel_rfl⟩
    · exact ⟨Try.prog.types[26]!, by kernel_rfl, by kernel_rfl, by kernel_rfl, by kernel_rfl⟩
    · exact ⟨Try.prog.types[27]!, by kernel_rfl, by kernel_rfl, by kernel_rfl, by kernel_rfl⟩
  bld := by
    intro p hp
    simp only [U, List.mem_cons, List.not_mem_nil, or_false] at hp
    rcases hp with rfl | rfl
    · exact ⟨_, Try.underlying26, by kernel_rfl⟩
    · exact ⟨_, Try.underlying27, by kernel_rfl⟩
  mixed := by kernel_rfl

theorem l7_FieldTells_spec (A : Option Addr) (cb : Nat) (bs : List Int) (l_bs : Nat) (hB8 : In .u8 bs) (hbl : bs.length ≤ 140737488351232) (hl_bs : bs.length = l_bs) :
    CallsS Try.prog 3 [.slice A l_bs cb] [vw A (nums .u8 bs)] (fun r D => r = .bool true ∧ D = []) := by
  subst hl_bs
  refine CallsS.enter hU Try.f3 _ [.tmp 2] 20 Try.func3 rfl (by decide) rfl rfl (by kernel_rfl) fun w0 W => ?_
  refine RunC.know (p := 0 < bs.length → Option.isSome A = true) (fun w hs => vw_some hs 0 rfl (by simp [nums_length])) (fun hA1 => ?_)
  refine RunC.seq ?_
  refine RunC.region ?_
  refine RunR.sil hU [] 1 1 [0, 2] [(0, .slice A bs.length cb), (2, .bool false)] ((True) ∧ True) rfl (by kernel_rfl) ⟨trivial, trivial⟩ ?_
  refine RunR.done (by kernel_rfl) ?_
  refine kseq_n ?_
  refine RunC.seq ?_
  refine RunC.seq ?_
  refine RunC.region ?_
  refine RunR.step (dst := some 4) (op := .call { callee := .value (.func 13), args := #[], argTypes := #[] }) (by kernel_rfl) (Step.call 13 [] (by kernel_rfl) (by kernel_rfl) [] [] [vw A (nums .u8 bs)] (l7_awake_spec) [] (by kernel_rfl) (Lend.nil _) ?_)
  rintro _ _ ⟨rfl, rfl⟩
  refine RunR.sil hU [] 1 2 [0, 2, 5] [(0, .slice A bs.length cb), (2, .bool false), (5, .bool false)] ((True) ∧ True) rfl (by kernel_rfl) ⟨trivial, trivial⟩ ?_
  refine RunR.done (by kernel_rfl) ?_
  refine kseq_n ?_
  refine RunC.cond (b := false) (by kernel_rfl) (fun h => by cases h) (fun _ => ?_)
  refine RunC.skip ?_
  refine kseq_n ?_
  refine RunC.seq ?_
  refine RunC.region ?_
  refine RunR.sil hU [] 1 1 [0, 2, 6] [(0, .slice A bs.length cb), (2, .bool false), (6, .slice A bs.length cb)] ((True) ∧ True) rfl (by kernel_rfl) ⟨trivial, trivial⟩ ?_
  refine RunR.step (dst := some 7) (op := .call { callee := .value (.func 14), args := #[.tmp 6], argTypes := #[22] }) (by kernel_rfl) (Step.call 14 [.slice A bs.length cb] (by kernel_rfl) (by kernel_rfl) [] [vw A (nums .u8 bs)] [vw A (nums .u8 bs)] (f_From_spec A cb bs bs.length hB8 (by first | assumption | omega | (simp only [List.length_append, List.length_cons, List.length_nil, List.length_set, List.length_replicate, List.length_take, List.length_drop]; omega) | (simp only [fits] at *; omega) | (simp only [List.length_append, List.length_cons, List.length_nil, List.length_set, List.length_replicate, List.length_take, List.length_drop] at *; omega) | (simp; done) | decide) (by first | rfl | assumption | omega | (simp only [List.length_append, List.length_cons, List.length_nil, List.length_set, List.length_replicate, List.length_take, List.length_drop]; omega) | (simp; done))) [] (by kernel_rfl) ((Lend.nil _).tells 0 (vw A (nums .u8 bs)) A (nums .u8 bs) (by kernel_rfl) (tells_vw _ _)) ?_)
  rintro _ _ ⟨zs2, rfl, rfl, hp3, hp4⟩
  refine RunR.step (dst := some 3) (op := .alloc 27) (by kernel_rfl) (Step.alloc hU 5 40 (.agg #[.int .u64 0, .int .u64 0, .int .u64 0, .int .u64 0, .int .u64 0]) rfl (by kernel_rfl) (fun b5 => ?_))
  have hl6 : (List.replicate 5 (0 : Int)).length = 5 := List.length_replicate
  refine RunR.step (dst := none) (op := .store 27 (.tmp 3) (.tmp 7)) (by kernel_rfl) (Step.store_seg hU 0 b5 (0) 27 (nums .u64 (List.replicate 5 (0 : Int))) (nums .u64 zs2) (nums .u64 zs2) (.agg (nums .u64 zs2).toArray) (by kernel_rfl) (by kernel_rfl) (by kernel_rfl) 5 (by kernel_rfl) (by kernel_rfl) (by first | rfl | (simp only [List.length_append, nums_length, List.length_cons, List.length_nil, List.length_replicate]; omega) | (simp [nums_length, *])) (by simp only [List.all_append, all_one_nums, Bool.true_and, Bool.and_true] <;> rfl) (show Put _ 0 _ _ from Put.all (by simp only [List.length_append, nums_length, List.length_cons, List.length_nil, List.length_replicate] <;> omega)) ?_)
  refine RunR.done (by kernel_rfl) ?_
  refine kseq_n ?_
  refine RunC.seq ?_
  refine RunC.regionU hU 13 [blk b5 27 (nums .u64 zs2)] [0] [6, 7, 9, 10, 12] #[false, false, false, false, false, false, false, false, false, false, false, false, false] (by kernel_rfl) (by kernel_rfl) (by kernel_rfl) ?_
  refine RunU.read 0 #[true, false, false, false, false, false, false, false, false, false, false, false, false] 8 (.load 27 (.tmp 3)) (.agg (nums .u64 zs2).toArray) [0] (by kernel_rfl) (Reads.load_blk hU 0 b5 (0) 27 (nums .u64 zs2) (.agg (nums .u64 zs2).toArray) (by kernel_rfl) (by kernel_rfl) (loadv_seg (n := 5) (by kernel_rfl) (by kernel_rfl) (Seg.all _) (by simp only [List.length_append, nums_length, List.length_cons, List.length_nil] <;> omega))) (by kernel_rfl) (by kernel_rfl) (by kernel_rfl) (by kernel_rfl) (fun _ _ _ h => h) ?_
  refine RunU.sil hU false 1 #[true, true, false, false, false, false, false, false, false, false, false, false, false] 9 (.slice A bs.length cb) (True) (by kernel_rfl) trivial (by kernel_rfl) (by kernel_rfl) (fun _ _ _ h => h) ?_
  refine RunU.one (dst := some 10) (op := .call { callee := .value (.func 16), args := #[.tmp 9], argTypes := #[22] }) 2 #[true, true, true, false, false, false, false, false, false, false, false, false, false] [0] (by kernel_rfl) (by kernel_rfl) (Step.call 16 [.slice A bs.length cb] (by kernel_rfl) (by kernel_rfl) [] [vw A (nums .u8 bs)] [blk b5 27 (nums .u64 zs2), vw A (nums .u8 bs)] (n_From_spec A cb bs bs.length hB8 (by first | assumption | omega | (simp only [List.length_append, List.length_cons, List.length_nil, List.length_set, List.length_replicate, List.length_take, List.length_drop]; omega) | (simp only [fits] at *; omega) | (simp only [List.length_append, List.length_cons, List.length_nil, List.length_set, List.length_replicate, List.length_take, List.length_drop] at *; omega) | (simp; done) | decide) (by first | rfl | assumption | omega | (simp only [List.length_append, List.length_cons, List.length_nil, List.length_set, List.length_replicate, List.length_take, List.length_drop]; omega) | (simp; done))) [] (by kernel_rfl) ((Lend.nil _).tells 1 (vw A (nums .u8 bs)) A (nums .u8 bs) (by kernel_rfl) (tells_vw _ _)) ?_)
  rintro _ _ ⟨zs7, rfl, rfl, hp8, hp9⟩
  refine ⟨.inl (by kernel_rfl), ?_⟩
  refine RunU.one (dst := some 11) (op := .call { callee := .value (.func 15), args := #[.tmp 8, .tmp 10], argTypes := #[27, 31] }) 3 #[true, true, true, true, false, false, false, false, false, false, false, false, false] [0] (by kernel_rfl) (by kernel_rfl) (Step.call 15 [.agg (nums .u64 zs2).toArray, .agg (nums .i64 zs7).toArray] (by kernel_rfl) (by kernel_rfl) [] [] [blk b5 27 (nums .u64 zs2), vw A (nums .u8 bs)] (l7_same_spec zs2 (fromV bs % P) zs7 (fromV bs % P) (by first | assumption | omega | (simp only [List.length_append, List.length_cons, List.length_nil, List.length_set, List.length_replicate, List.length_take, List.length_drop]; omega) | (simp only [fits] at *; omega) | (simp only [List.length_append, List.length_cons, List.length_nil, List.length_set, List.length_replicate, List.length_take, List.length_drop] at *; omega) | (simp; done) | decide) (by first | rfl | assumption | omega | (simp only [List.length_append, List.length_cons, List.length_nil, List.length_set, List.length_replicate, List.length_take, List.length_drop]; omega) | (simp; done)) (by first | assumption | omega | (simp only [List.length_append, List.length_cons, List.length_nil, List.length_set, List.length_replicate, List.length_take, List.length_drop]; omega) | (simp only [fits] at *; omega) | (simp only [List.length_append, List.length_cons, List.length_nil, List.length_set, List.length_replicate, List.length_take, List.length_drop] at *; omega) | (simp; done) | decide) (by first | rfl | assumption | omega | (simp only [List.length_append, List.length_cons, List.length_nil, List.length_set, List.length_replicate, List.length_take, List.length_drop]; omega) | (simp; done))) [] (by kernel_rfl) (Lend.nil _) ?_)
  rintro _ _ ⟨rfl, rfl⟩
  refine ⟨.inl (by kernel_rfl), ?_⟩
  refine RunU.sil hU false 4 #[true, true, true, true, true, false, false, false, false, false, false, false, false] 12 (.bool (decide ((fromV bs % P) = (fromV bs % P)))) (True) (by kernel_rfl) trivial (by kernel_rfl) (by kernel_rfl) (fun _ _ _ h => h) ?_
  refine RunU.env [0, 2, 3, 6, 7, 8, 9, 10, 11, 12] [(0, .slice A bs.length cb), (2, .bool false), (3, .pointer (some ⟨b5, 0, none⟩)), (6, .slice A bs.length cb), (7, .agg (nums .u64 zs2).toArray), (8, .agg (nums .u64 zs2).toArray), (9, .slice A bs.length cb), (10, .agg (nums .i64 zs7).toArray), (11, .bool (decide ((fromV bs % P) = (fromV bs % P)))), (12, .bool (decide ((fromV bs % P) = (fromV bs % P))))] (by kernel_rfl) ?_
  have hk10 : ((fromV bs % P) = (fromV bs % P)) := by rfl
  refine RunU.enveq [(0, .slice A bs.length cb), (2, .bool false), (3, .pointer (some ⟨b5, 0, none⟩)), (6, .slice A bs.length cb), (7, .agg (nums .u64 zs2).toArray), (8, .agg (nums .u64 zs2).toArray), (9, .slice A bs.length cb), (10, .agg (nums .i64 zs7).toArray), (11, .bool true), (12, .bool true)] (by rw [decide_eq_true hk10]; try rfl) ?_
  refine RunU.read 5 #[true, true, true, true, true, true, false, false, false, false, false, false, false] 13 (.load 27 (.tmp 3)) (.agg (nums .u64 zs2).toArray) [0] (by kernel_rfl) (Reads.load_blk hU 0 b5 (0) 27 (nums .u64 zs2) (.agg (nums .u64 zs2).toArray) (by kernel_rfl) (by kernel_rfl) (loadv_seg (n := 5) (by kernel_rfl) (by kernel_rfl) (Seg.all _) (by simp only [List.length_append, nums_length, List.length_cons, List.length_nil] <;> omega))) (by kernel_rfl) (by kernel_rfl) (by kernel_rfl) (by kernel_rfl) (fun _ _ _ h => h) ?_
  refine RunU.sil hU false 8 #[true, true, true, true, true, true, false, false, true, false, false, false, false] 16 (.slice A bs.length cb) (True) (by kernel_rfl) trivial (by kernel_rfl) (by kernel_rfl) (fun _ _ _ h => h) ?_
  refine RunU.one (dst := some 14) (op := .call { callee := .value (.func 17), args := #[.tmp 13], argTypes := #[27] }) 6 #[true, true, true, true, true, true, true, false, true, false, false, false, false] [] (by kernel_rfl) (by kernel_rfl) (Step.call 17 [.agg (nums .u64 zs2).toArray] (by kernel_rfl) (by kernel_rfl) [] [] [blk b5 27 (nums .u64 zs2), vw A (nums .u8 bs)] (f_Bytes_spec zs2 (fromV bs % P) (by first | assumption | omega | (simp only [List.length_append, List.length_cons, List.length_nil, List.length_set, List.length_replicate, List.length_take, List.length_drop]; omega) | (simp only [fits] at *; omega) | (simp only [List.length_append, List.length_cons, List.length_nil, List.length_set, List.length_replicate, List.length_take, List.length_drop] at *; omega) | (simp; done) | decide) (by first | rfl | assumption | omega | (simp only [List.length_append, List.length_cons, List.length_nil, List.length_set, List.length_replicate, List.length_take, List.length_drop]; omega) | (simp; done))) [] (by kernel_rfl) (Lend.nil _) ?_)
  rintro _ _ ⟨Aq11, cb12, zs13, rfl, rfl, hp14, hp15, hp16, hp17, hp18⟩
  refine ⟨.inr (by kernel_rfl), ?_⟩
  refine RunU.one (dst := some 15) (op := .call { callee := .value (.func 14), args := #[.tmp 14], argTypes := #[22] }) 7 #[true, true, true, true, true, true, true, true, true, false, false, false, false] [] (by kernel_rfl) (by kernel_rfl) (Step.call 14 [.slice Aq11 zs13.length cb12] (by kernel_rfl) (by kernel_rfl) [] [vw Aq11 (nums .u8 zs13)] [row 5 1 (.slice Aq11 zs13.length cb12) zs13.length (nums .u8 zs13), blk b5 27 (nums .u64 zs2), vw A (nums .u8 bs)] (f_From_spec Aq11 cb12 zs13 zs13.length hp16 (by first | assumption | omega | (simp only [List.length_append, List.length_cons, List.length_nil, List.length_set, List.length_replicate, List.length_take, List.length_drop]; omega) | (simp only [fits] at *; omega) | (simp only [List.length_append, List.length_cons, List.length_nil, List.length_set, List.length_replicate, List.length_take, List.length_drop] at *; omega) | (simp; done) | decide) (by first | rfl | assumption | omega | (simp only [List.length_append, List.length_cons, List.length_nil, List.length_set, List.length_replicate, List.length_take, List.length_drop]; omega) | (simp; done))) [] (by kernel_rfl) ((Lend.nil _).tells 0 (row 5 1 (.slice Aq11 zs13.length cb12) zs13.length (nums .u8 zs13)) Aq11 (nums .u8 zs13) (by kernel_rfl) (tells_row _ _ _ _ _ _)) ?_)
  rintro _ _ ⟨zs19, rfl, rfl, hp20, hp21⟩
  refine ⟨.inr (by kernel_rfl), ?_⟩
  refine RunU.one (dst := some 17) (op := .call { callee := .value (.func 16), args := #[.tmp 16], argTypes := #[22] }) 9 #[true, true, true, true, true, true, true, true, true, true, false, false, false] [] (by kernel_rfl) (by kernel_rfl) (Step.call 16 [.slice A bs.length cb] (by kernel_rfl) (by kernel_rfl) [] [vw A (nums .u8 bs)] [row 5 1 (.slice Aq11 zs13.length cb12) zs13.length (nums .u8 zs13), blk b5 27 (nums .u64 zs2), vw A (nums .u8 bs)] (n_From_spec A cb bs bs.length hB8 (by first | assumption | omega | (simp only [List.length_append, List.length_cons, List.length_nil, List.length_set, List.length_replicate, List.length_take, List.length_drop]; omega) | (simp only [fits] at *; omega) | (simp only [List.length_append, List.length_cons, List.length_nil, List.length_set, List.length_replicate, List.length_take, List.length_drop] at *; omega) | (simp; done) | decide) (by first | rfl | assumption | omega | (simp only [List.length_append, List.length_cons, List.length_nil, List.length_set, List.length_replicate, List.length_take, List.length_drop]; omega) | (simp; done))) [] (by kernel_rfl) ((Lend.nil _).tells 2 (vw A (nums .u8 bs)) A (nums .u8 bs) (by kernel_rfl) (tells_vw _ _)) ?_)
  rintro _ _ ⟨zs22, rfl, rfl, hp23, hp24⟩
  refine ⟨.inr (by kernel_rfl), ?_⟩
  refine RunU.one (dst := some 18) (op := .call { callee := .value (.func 15), args := #[.tmp 15, .tmp 17], argTypes := #[27, 31] }) 10 #[true, true, true, true, true, true, true, true, true, true, true, false, false] [] (by kernel_rfl) (by kernel_rfl) (Step.call 15 [.agg (nums .u64 zs19).toArray, .agg (nums .i64 zs22).toArray] (by kernel_rfl) (by kernel_rfl) [] [] [row 5 1 (.slice Aq11 zs13.length cb12) zs13.length (nums .u8 zs13), blk b5 27 (nums .u64 zs2), vw A (nums .u8 bs)] (l7_same_spec zs19 (fromV zs13 % P) zs22 (fromV bs % P) (by first | assumption | omega | (simp only [List.length_append, List.length_cons, List.length_nil, List.length_set, List.length_replicate, List.length_take, List.length_drop]; omega) | (simp only [fits] at *; omega) | (simp only [List.length_append, List.length_cons, List.length_nil, List.length_set, List.length_replicate, List.length_take, List.length_drop] at *; omega) | (simp; done) | decide) (by first | rfl | assumption | omega | (simp only [List.length_append, List.length_cons, List.length_nil, List.length_set, List.length_replicate, List.length_take, List.length_drop]; omega) | (simp; done)) (by first | assumption | omega | (simp only [List.length_append, List.length_cons, List.length_nil, List.length_set, List.length_replicate, List.length_take, List.length_drop]; omega) | (simp only [fits] at *; omega) | (simp only [List.length_append, List.length_cons, List.length_nil, List.length_set, List.length_replicate, List.length_take, List.length_drop] at *; omega) | (simp; done) | decide) (by first | rfl | assumption | omega | (simp only [List.length_append, List.length_cons, List.length_nil, List.length_set, List.length_replicate, List.length_take, List.length_drop]; omega) | (simp; done))) [] (by kernel_rfl) (Lend.nil _) ?_)
  rintro _ _ ⟨rfl, rfl⟩
  refine ⟨.inr (by kernel_rfl), ?_⟩
  refine RunU.sil hU false 11 #[true, true, true, true, true, true, true, true, true, true, true, true, false] 19 (.bool (decide ((fromV zs13 % P) = (fromV bs % P)))) (True) (by kernel_rfl) trivial (by kernel_rfl) (by kernel_rfl) (fun _ _ _ h => h) ?_
  refine RunU.sil hU false 12 #[true, true, true, true, true, true, true, true, true, true, true, true, true] 2 (.bool (decide ((fromV zs13 % P) = (fromV bs % P)))) (True) (by kernel_rfl) trivial (by kernel_rfl) (by kernel_rfl) (fun _ _ _ h => h) ?_
  refine RunU.env [0, 2, 3, 6, 7, 8, 9, 10, 11, 12, 13, 14, 15, 16, 17, 18, 19] [(0, .slice A bs.length cb), (2, .bool (decide ((fromV zs13 % P) = (fromV bs % P)))), (3, .pointer (some ⟨b5, 0, none⟩)), (6, .slice A bs.length cb), (7, .agg (nums .u64 zs2).toArray), (8, .agg (nums .u64 zs2).toArray), (9, .slice A bs.length cb), (10, .agg (nums .i64 zs7).toArray), (11, .bool true), (12, .bool true), (13, .agg (nums .u64 zs2).toArray), (14, .slice Aq11 zs13.length cb12), (15, .agg (nums .u64 zs19).toArray), (16, .slice A bs.length cb), (17, .agg (nums .i64 zs22).toArray), (18, .bool (decide ((fromV zs13 % P) = (fromV bs % P)))), (19, .bool (decide ((fromV zs13 % P) = (fromV bs % P))))] (by kernel_rfl) ?_
  have hk25 : ((fromV zs13 % P) = (fromV bs % P)) := by exact from_back (by assumption)
  refine RunU.enveq [(0, .slice A bs.length cb), (2, .bool true), (3, .pointer (some ⟨b5, 0, none⟩)), (6, .slice A bs.length cb), (7, .agg (nums .u64 zs2).toArray), (8, .agg (nums .u64 zs2).toArray), (9, .slice A bs.length cb), (10, .agg (nums .i64 zs7).toArray), (11, .bool true), (12, .bool true), (13, .agg (nums .u64 zs2).toArray), (14, .slice Aq11 zs13.length cb12), (15, .agg (nums .u64 zs19).toArray), (16, .slice A bs.length cb), (17, .agg (nums .i64 zs22).toArray), (18, .bool true), (19, .bool true)] (by rw [decide_eq_true hk25]; try rfl) ?_
  refine RunU.env [2] [(2, .bool true)] (by kernel_rfl) ?_
  refine RunU.done (by kernel_rfl) ?_
  refine kseq_n ?_
  refine RunC.ret ?_
  refine kret_r [.bool true] [] [] ⟨rfl, trivial⟩ (by kernel_rfl) rfl ⟨rfl, rfl⟩
end Go.Proofs.Ytbnjcfhnbjaoiaa.LFieldTells
