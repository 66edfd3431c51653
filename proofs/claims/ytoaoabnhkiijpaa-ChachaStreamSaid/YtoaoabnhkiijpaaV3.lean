/- What these functions compute: a contract for each, walked through its code. -/
import Derived.Test.YtoaoabnhkiijpaaCPure
import Derived.Test.YtoaoabnhkiijpaaProg
import Derived.Test.YtoaoabnhkiijpaaV1
import Derived.Test.YtoaoabnhkiijpaaV2
namespace Go.Proofs.Ytoaoabnhkiijpaa.V3
open Go Go.Proofs.Ytoaoabnhkiijpaa.SL Go.Proofs.Ytoaoabnhkiijpaa.SL.W Go.Proofs.Ytoaoabnhkiijpaa.SL.C Go.Proofs.Ytoaoabnhkiijpaa.V1 Go.Proofs.Ytoaoabnhkiijpaa.V2
set_option linter.unusedVariables false
set_option linter.unusedSimpArgs false
set_option maxRecDepth 100000
set_option maxHeartbeats 40000000
def U : Tab where
  und := [(3, .int .i64), (5, .int .u8), (22, .slice 5), (23, .int .u32), (73, .array 4 3), (86, .array 16 23), (87, .array 16 23), (89, .array 8 73)]
  fld := []
  sz := [(3, 1), (5, 1), (22, 1), (23, 1), (73, 4), (86, 16), (87, 16), (89, 32)]
  ti := [(3, (1, 8, .int .i64 0)), (5, (1, 1, .int .u8 0)), (22, (1, 24, .slice none 0 0)), (23, (1, 4, .int .u32 0)), (73, (4, 32, .agg #[.int .i64 0, .int .i64 0, .int .i64 0, .int .i64 0])), (86, (16, 64, .agg #[.int .u32 0, .int .u32 0, .int .u32 0, .int .u32 0, .int .u32 0, .int .u32 0, .int .u32 0, .int .u32 0, .int .u32 0, .int .u32 0, .int .u32 0, .int .u32 0, .int .u32 0, .int .u32 0, .int .u32 0, .int .u32 0])), (87, (16, 64, .agg #[.int .u32 0, .int .u32 0, .int .u32 0, .int .u32 0, .int .u32 0, .int .u32 0, .int .u32 0, .int .u32 0, .int .u32 0, .int .u32 0, .int .u32 0, .int .u32 0, .int .u32 0, .int .u32 0, .int .u32 0, .int .u32 0])), (89, (32, 256, .agg #[.int .i64 0, .int .i64 0, .int .i64 0, .int .i64 0, .int .i64 0, .int .i64 0, .int .i64 0, .int .i64 0, .int .i64 0, .int .i64 0, .int .i64 0, .int .i64 0, .int .i64 0, .int .i64 0, .int .i64 0, .int .i64 0, .int .i64 0, .int .i64 0, .int .i64 0, .int .i64 0, .int .i64 0, .int .i64 0, .int .i64 0, .int .i64 0, .int .i64 0, .int .i64 0, .int .i64 0, .int .i64 0, .int .i64 0, .int .i64 0, .int .i64 0, .int .i64 0]))]
  bld := []

theorem hU : U.OK Try.prog where
  und := by
    intro p hp
    simp only [U, List.mem_cons, List.not_mem_nil, or_false] at hp
    rcases hp with rfl | rfl | rfl | rfl | rfl | rfl | rfl | rfl
    · exact Try.underlying3
    · exact Try.underlying5
    · exact Try.underlying22
    · exact Try.underlying23
    · exact Try.underlying73
    · exact Try.underlying86
    · exact Try.underlying87
    · exact Try.underlying89
  fld := by
    intro p hp; cases hp
  sz := by
    intro p hp
    simp only [U, List.mem_cons, List.not_mem_nil, or_false] at hp
    rcases hp with rfl | rfl | rfl | rfl | rfl | rfl | rfl | rfl
    · exact ⟨Try.prog.types[3]!, by kernel_rfl, by kernel_rfl⟩
    · exact ⟨Try.prog.types[5]!, by kernel_rfl, by kernel_rfl⟩
    · exact ⟨Try.prog.types[22]!, by kernel_rfl, by kernel_rfl⟩
    · exact ⟨Try.prog.types[23]!, by kernel_rfl, by kernel_rfl⟩
    · exact ⟨Try.prog.types[73]!, by kernel_rfl, by kernel_rfl⟩
    · exact ⟨Try.prog.types[86]!, by kernel_rfl, by kernel_rfl⟩
    · exact ⟨Try.prog.types[87]!, by kernel_rfl, by kernel_rfl⟩
    · exact ⟨Try.prog.types[89]!, by kernel_rfl, by kernel_rfl⟩
  ti := by
    intro p hp
    simp only [U, List.mem_cons, List.not_mem_nil, or_false] at hp
    rcases hp with rfl | rfl | rfl | rfl | rfl | rfl | rfl | rfl
    · exact ⟨Try.prog.types[3]!, by kernel_rfl, by kernel_rfl, by kernel_rfl, by kernel_rfl⟩
    · exact ⟨Try.prog.types[5]!, by kernel_rfl, by kernel_rfl, by kernel_rfl, by kernel_rfl⟩
    · exact ⟨Try.prog.types[22]!, by kernel_rfl, by kernel_rfl, by kernel_rfl, by kernel_rfl⟩
    · exact ⟨Try.prog.types[23]!, by kernel_rfl, by kernel_rfl, by kernel_rfl, by kernel_rfl⟩
    · exact ⟨Try.prog.types[73]!, by kernel_rfl, by kernel_rfl, by kernel_rfl, by kernel_rfl⟩
    · exact ⟨Try.prog.types[86]!, by kernel_rfl, by kernel_rfl, by kernel_rfl, by kernel_rfl⟩
    · exact ⟨Try.prog.types[87]!, by kernel_rfl, by kernel_rfl, by kernel_rfl, by kernel_rfl⟩
    · exact ⟨Try.prog.types[89]!, by kernel_rfl, by kernel_rfl, by kernel_rfl, by kernel_rfl⟩
  bld := by
    intro p hp; cases hp
  mixed := by kernel_rfl

theorem c_block_spec (A : Option Addr) (c : Nat) (xs : List Int) (A2 : Option Addr) (c2 : Nat) (ys : List Int) (n : Int) (l_xs : Nat) (l_ys : Nat) (hx : In .u8 xs) (hy : In .u8 ys) (hxl : xs.length = 32) (hyl : ys.length = 12) (hn : fits .u32 n) (hcx : xs.length ≤ c) (hcy : ys.length ≤ c2) (hl_xs : xs.length = l_xs) (hl_ys : ys.length = l_ys) :
    CallsS Try.prog 31 [.slice A l_xs c, .slice A2 l_ys c2, .int .u32 n] [vw A (nums .u8 xs), vw A2 (nums .u8 ys)] (fun r D => ∃ (A3 : Option Addr) (c3 : Nat) (zs : List Int), r = .slice A3 zs.length c3 ∧ D = [row 5 1 (.slice A3 zs.length c3) zs.length (nums .u8 zs)] ∧ (zs = block xs ys n) ∧ (zs.length = 64) ∧ (In .u8 zs) ∧ (zs.length ≤ c3) ∧ (0 < zs.length → Option.isSome A3 = true)) := by
  subst hl_xs
  subst hl_ys
  refine CallsS.enter hU Try.f31 _ [.tmp 6] 46 Try.func31 rfl (by decide) rfl rfl (by kernel_rfl) fun w0 W => ?_
  refine RunC.know (p := 0 < xs.length → Option.isSome A = true) (fun w hs => vw_some hs 0 rfl (by simp [nums_length])) (fun hA1 => ?_)
  refine RunC.know (p := 0 < ys.length → Option.isSome A2 = true) (fun w hs => vw_some hs 1 rfl (by simp [nums_length])) (fun hA2 => ?_)
  refine RunC.seq ?_
  refine RunC.region ?_
  refine RunR.sil hU [] 1 1 [0, 1, 2, 6] [(0, .slice A xs.length c), (1, .slice A2 ys.length c2), (2, .int .u32 n), (6, .slice none 0 0)] ((True) ∧ True) rfl (by kernel_rfl) ⟨trivial, trivial⟩ ?_
  refine RunR.done (by kernel_rfl) ?_
  refine kseq_n ?_
  refine RunC.seq ?_
  refine RunC.region ?_
  refine RunR.sil hU [] 3 3 [6, 14, 15, 16] [(6, .slice none 0 0), (14, .slice A xs.length c), (15, .slice A2 ys.length c2), (16, .int .u32 n)] ((True) ∧ (True) ∧ (True) ∧ True) rfl (by kernel_rfl) ⟨trivial, trivial, trivial, trivial⟩ ?_
  refine RunR.step (dst := some 17) (op := .call { callee := .value (.func 56), args := #[.tmp 14, .tmp 15, .tmp 16], argTypes := #[22, 22, 23] }) (by kernel_rfl) (Step.call 56 [.slice A xs.length c, .slice A2 ys.length c2, .int .u32 n] (by kernel_rfl) (by kernel_rfl) [] [vw A (nums .u8 xs), vw A2 (nums .u8 ys)] [vw A (nums .u8 xs), vw A2 (nums .u8 ys)] (c_begin_spec A c xs A2 c2 ys n xs.length ys.length hx hy (by first | rfl | assumption | omega | (simp only [List.length_append, List.length_cons, List.length_nil, List.length_set, List.length_replicate, List.length_take, List.length_drop]; omega) | (simp; done)) (by first | rfl | assumption | omega | (simp only [List.length_append, List.length_cons, List.length_nil, List.length_set, List.length_replicate, List.length_take, List.length_drop]; omega) | (simp; done)) (by first | assumption | exact fits_wrap _ _ | exact fits_bits2 _ _ _ _ | (refine ⟨?_, ?_⟩ <;> omega)) (by first | assumption | omega | (simp only [List.length_append, List.length_cons, List.length_nil, List.length_set, List.length_replicate, List.length_take, List.length_drop]; omega) | (simp only [fits] at *; omega) | (simp only [List.length_append, List.length_cons, List.length_nil, List.length_set, List.length_replicate, List.length_take, List.length_drop] at *; omega) | (simp; done) | decide) (by first | assumption | omega | (simp only [List.length_append, List.length_cons, List.length_nil, List.length_set, List.length_replicate, List.length_take, List.length_drop]; omega) | (simp only [fits] at *; omega) | (simp only [List.length_append, List.length_cons, List.length_nil, List.length_set, List.length_replicate, List.length_take, List.length_drop] at *; omega) | (simp; done) | decide) (by first | rfl | assumption | omega | (simp only [List.length_append, List.length_cons, List.length_nil, List.length_set, List.length_replicate, List.length_take, List.length_drop]; omega) | (simp; done)) (by first | rfl | assumption | omega | (simp only [List.length_append, List.length_cons, List.length_nil, List.length_set, List.length_replicate, List.length_take, List.length_drop]; omega) | (simp; done))) [] (by kernel_rfl) (((Lend.nil _).tells 1 (vw A2 (nums .u8 ys)) A2 (nums .u8 ys) (by kernel_rfl) (tells_vw _ _)).tells 0 (vw A (nums .u8 xs)) A (nums .u8 xs) (by kernel_rfl) (tells_vw _ _)) ?_)
  rintro _ _ ⟨zs3, rfl, rfl, hp4, hp5⟩
  refine RunR.step (dst := some 7) (op := .alloc 87) (by kernel_rfl) (Step.alloc hU 16 64 (.agg #[.int .u32 0, .int .u32 0, .int .u32 0, .int .u32 0, .int .u32 0, .int .u32 0, .int .u32 0, .int .u32 0, .int .u32 0, .int .u32 0, .int .u32 0, .int .u32 0, .int .u32 0, .int .u32 0, .int .u32 0, .int .u32 0]) rfl (by kernel_rfl) (fun b6 => ?_))
  refine RunR.step (dst := none) (op := .store 87 (.tmp 7) (.tmp 17)) (by kernel_rfl) (Step.store_arr hU 0 b6 87 16 .u32 (List.replicate 16 (0 : Int)) zs3 (by kernel_rfl) (by kernel_rfl) (by kernel_rfl) (by kernel_rfl) (by first | rfl | omega | (simp; done)) (by first | rfl | omega | (simp; done)) ?_)
  refine RunR.done (by kernel_rfl) ?_
  refine kseq_n ?_
  refine RunC.seq ?_
  refine RunC.region ?_
  refine RunR.step (dst := some 18) (op := .load 87 (.tmp 7)) (by kernel_rfl) (Step.load_arr hU 0 b6 87 16 .u32 zs3 (by kernel_rfl) (by kernel_rfl) (by kernel_rfl) (by kernel_rfl) (by first | rfl | omega | (simp; done)) (by kernel_rfl) ?_)
  refine RunR.step (dst := some 8) (op := .alloc 87) (by kernel_rfl) (Step.alloc hU 16 64 (.agg #[.int .u32 0, .int .u32 0, .int .u32 0, .int .u32 0, .int .u32 0, .int .u32 0, .int .u32 0, .int .u32 0, .int .u32 0, .int .u32 0, .int .u32 0, .int .u32 0, .int .u32 0, .int .u32 0, .int .u32 0, .int .u32 0]) rfl (by kernel_rfl) (fun b7 => ?_))
  refine RunR.step (dst := none) (op := .store 87 (.tmp 8) (.tmp 18)) (by kernel_rfl) (Step.store_arr hU 0 b7 87 16 .u32 (List.replicate 16 (0 : Int)) zs3 (by kernel_rfl) (by kernel_rfl) (by kernel_rfl) (by kernel_rfl) (by first | rfl | omega | (simp; done)) (by first | rfl | omega | (simp; done)) ?_)
  refine RunR.done (by kernel_rfl) ?_
  refine kseq_n ?_
  refine RunC.seq ?_
  refine RunC.region ?_
  refine RunR.step (dst := some 19) (op := .call { callee := .value (.func 57), args := #[], argTypes := #[] }) (by kernel_rfl) (Step.call 57 [] (by kernel_rfl) (by kernel_rfl) [] [] [blk b7 87 (nums .u32 zs3), blk b6 87 (nums .u32 zs3), vw A (nums .u8 xs), vw A2 (nums .u8 ys)] (c_quarters_spec) [] (by kernel_rfl) (Lend.nil _) ?_)
  rintro _ _ ⟨rfl, rfl⟩
  refine RunR.step (dst := some 9) (op := .alloc 89) (by kernel_rfl) (Step.alloc hU 32 256 (.agg #[.int .i64 0, .int .i64 0, .int .i64 0, .int .i64 0, .int .i64 0, .int .i64 0, .int .i64 0, .int .i64 0, .int .i64 0, .int .i64 0, .int .i64 0, .int .i64 0, .int .i64 0, .int .i64 0, .int .i64 0, .int .i64 0, .int .i64 0, .int .i64 0, .int .i64 0, .int .i64 0, .int .i64 0, .int .i64 0, .int .i64 0, .int .i64 0, .int .i64 0, .int .i64 0, .int .i64 0, .int .i64 0, .int .i64 0, .int .i64 0, .int .i64 0, .int .i64 0]) rfl (by kernel_rfl) (fun b8 => ?_))
  refine RunR.step (dst := none) (op := .store 89 (.tmp 9) (.tmp 19)) (by kernel_rfl) (Step.store_arr hU 0 b8 89 32 .i64 (List.replicate 32 (0 : Int)) ([0, 4, 8, 12, 1, 5, 9, 13, 2, 6, 10, 14, 3, 7, 11, 15, 0, 5, 10, 15, 1, 6, 11, 12, 2, 7, 8, 13, 3, 4, 9, 14] : List Int) (by kernel_rfl) (by kernel_rfl) (by kernel_rfl) (by kernel_rfl) (by first | rfl | omega | (simp; done)) (by first | rfl | omega | (simp; done)) ?_)
  have hl9 : (([0, 4, 8, 12, 1, 5, 9, 13, 2, 6, 10, 14, 3, 7, 11, 15, 0, 5, 10, 15, 1, 6, 11, 12, 2, 7, 8, 13, 3, 4, 9, 14] : List Int)).length = 32 := rfl
  refine RunR.done (by kernel_rfl) ?_
  refine kseq_n ?_
  refine RunC.seq ?_
  refine RunC.seq ?_
  refine RunC.region ?_
  refine RunR.sil hU [] 1 1 [6, 7, 8, 9, 20] [(6, .slice none 0 0), (7, .pointer (some ⟨b6, 0, none⟩)), (8, .pointer (some ⟨b7, 0, none⟩)), (9, .pointer (some ⟨b8, 0, none⟩)), (20, .int .i64 0)] ((True) ∧ True) rfl (by kernel_rfl) ⟨trivial, trivial⟩ ?_
  refine RunR.done (by kernel_rfl) ?_
  refine kseq_n ?_
  refine RunC.block ?_
  refine RunC.env [6, 7, 8, 9, 20] [(6, .slice none 0 0), (7, .pointer (some ⟨b6, 0, none⟩)), (8, .pointer (some ⟨b7, 0, none⟩)), (9, .pointer (some ⟨b8, 0, none⟩)), (20, .int .i64 0)] (by kernel_rfl) ?_
  refine RunC.only [1, 0, 0, 0, 0] [blk b7 87 (nums .u32 zs3), blk b8 89 (nums .i64 ([0, 4, 8, 12, 1, 5, 9, 13, 2, 6, 10, 14, 3, 7, 11, 15, 0, 5, 10, 15, 1, 6, 11, 12, 2, 7, 8, 13, 3, 4, 9, 14] : List Int)), blk b6 87 (nums .u32 zs3), vw A (nums .u8 xs), vw A2 (nums .u8 ys)] (by kernel_rfl) ?_
  refine RunC.loop (σ := Nat) (fun n_ t_ D_ => ∃ (i : Int) (vs : List Int), (0 ≤ i) ∧ (i ≤ 10) ∧ (vs = rounds zs3 i.toNat) ∧ (vs.length = 16) ∧ n_ = ((10 - i).toNat : Nat) ∧ t_ = [(6, .slice none 0 0), (7, .pointer (some ⟨b6, 0, none⟩)), (8, .pointer (some ⟨b7, 0, none⟩)), (9, .pointer (some ⟨b8, 0, none⟩)), (20, .int .i64 i)] ∧ D_ = [blk b7 87 (nums .u32 vs), blk b8 89 (nums .i64 ([0, 4, 8, 12, 1, 5, 9, 13, 2, 6, 10, 14, 3, 7, 11, 15, 0, 5, 10, 15, 1, 6, 11, 12, 2, 7, 8, 13, 3, 4, 9, 14] : List Int)), blk b6 87 (nums .u32 zs3), vw A (nums .u8 xs), vw A2 (nums .u8 ys)]) id _ ⟨0, zs3, (by first | assumption | omega | (simp only [List.length_append, List.length_cons, List.length_nil, List.length_set, List.length_replicate, List.length_take, List.length_drop]; omega) | (simp only [fits] at *; omega) | (simp only [List.length_append, List.length_cons, List.length_nil, List.length_set, List.length_replicate, List.length_take, List.length_drop] at *; omega) | (simp; done) | decide), (by first | assumption | omega | (simp only [List.length_append, List.length_cons, List.length_nil, List.length_set, List.length_replicate, List.length_take, List.length_drop]; omega) | (simp only [fits] at *; omega) | (simp only [List.length_append, List.length_cons, List.length_nil, List.length_set, List.length_replicate, List.length_take, List.length_drop] at *; omega) | (simp; done) | decide), (by rfl), (by first | rfl | assumption | omega | (simp only [List.length_append, List.length_cons, List.length_nil, List.length_set, List.length_replicate, List.length_take, List.length_drop]; omega) | (simp; done)), rfl, rfl, rfl⟩ ?_
  rintro n_ _ _ ⟨i, vs, hi, hi2, hv, hvl, rfl, rfl, rfl⟩
  refine RunC.seq ?_
  refine RunC.region ?_
  refine RunR.sil hU [] 1 1 [6, 7, 8, 9, 20, 21] [(6, .slice none 0 0), (7, .pointer (some ⟨b6, 0, none⟩)), (8, .pointer (some ⟨b7, 0, none⟩)), (9, .pointer (some ⟨b8, 0, none⟩)), (20, .int .i64 i), (21, .bool (decide (i < 10)))] ((True) ∧ True) rfl (by kernel_rfl) ⟨trivial, trivial⟩ ?_
  refine RunR.done (by kernel_rfl) ?_
  refine kseq_n ?_
  refine RunC.seq ?_
  refine RunC.condp (i < 10) (by kernel_rfl) (fun h10 => ?_) (fun h10 => ?_)
  · skip
    refine RunC.skip ?_
    refine kseq_n ?_
    refine RunC.seq ?_
    refine RunC.block ?_
    refine RunC.seq ?_
    refine RunC.region ?_
    refine RunR.step (dst := some 22) (op := .load 89 (.tmp 9)) (by kernel_rfl) (Step.load_arr hU 1 b8 89 32 .i64 ([0, 4, 8, 12, 1, 5, 9, 13, 2, 6, 10, 14, 3, 7, 11, 15, 0, 5, 10, 15, 1, 6, 11, 12, 2, 7, 8, 13, 3, 4, 9, 14] : List Int) (by kernel_rfl) (by kernel_rfl) (by kernel_rfl) (by kernel_rfl) (by first | rfl | omega | (simp; done)) (by kernel_rfl) ?_)
    refine RunR.sil hU [] 1 2 [6, 7, 8, 9, 20, 22, 23] [(6, .slice none 0 0), (7, .pointer (some ⟨b6, 0, none⟩)), (8, .pointer (some ⟨b7, 0, none⟩)), (9, .pointer (some ⟨b8, 0, none⟩)), (20, .int .i64 i), (22, .agg (nums .i64 ([0, 4, 8, 12, 1, 5, 9, 13, 2, 6, 10, 14, 3, 7, 11, 15, 0, 5, 10, 15, 1, 6, 11, 12, 2, 7, 8, 13, 3, 4, 9, 14] : List Int)).toArray), (23, .int .i64 0)] ((True) ∧ True) rfl (by kernel_rfl) ⟨trivial, trivial⟩ ?_
    refine RunR.done (by kernel_rfl) ?_
    refine kseq_n ?_
    refine RunC.block ?_
    refine RunC.unroll 8 ?_
    refine RunC.seq ?_
    refine RunC.region ?_
    refine RunR.sil hU [] 1 1 [6, 7, 8, 9, 20, 22, 23, 24] [(6, .slice none 0 0), (7, .pointer (some ⟨b6, 0, none⟩)), (8, .pointer (some ⟨b7, 0, none⟩)), (9, .pointer (some ⟨b8, 0, none⟩)), (20, .int .i64 i), (22, .agg (nums .i64 ([0, 4, 8, 12, 1, 5, 9, 13, 2, 6, 10, 14, 3, 7, 11, 15, 0, 5, 10, 15, 1, 6, 11, 12, 2, 7, 8, 13, 3, 4, 9, 14] : List Int)).toArray), (23, .int .i64 0), (24, .bool true)] ((True) ∧ True) rfl (by kernel_rfl) ⟨trivial, trivial⟩ ?_
    refine RunR.done (by kernel_rfl) ?_
    refine kseq_n ?_
    refine RunC.seq ?_
    refine RunC.cond (b := true) (by kernel_rfl) (fun _ => ?_) (fun h => by cases h)
    refine RunC.skip ?_
    refine kseq_n ?_
    refine RunC.seq ?_
    refine RunC.block ?_
    refine RunC.seq ?_
    refine RunC.region ?_
    refine RunR.sil hU [] 1 1 [6, 7, 8, 9, 20, 22, 23, 24, 25] [(6, .slice none 0 0), (7, .pointer (some ⟨b6, 0, none⟩)), (8, .pointer (some ⟨b7, 0, none⟩)), (9, .pointer (some ⟨b8, 0, none⟩)), (20, .int .i64 i), (22, .agg (nums .i64 ([0, 4, 8, 12, 1, 5, 9, 13, 2, 6, 10, 14, 3, 7, 11, 15, 0, 5, 10, 15, 1, 6, 11, 12, 2, 7, 8, 13, 3, 4, 9, 14] : List Int)).toArray), (23, .int .i64 0), (24, .bool true), (25, .agg (nums .i64 ([0,  4,  8,  12] : List Int)).toArray)] ((0 ≤ (0 : Int) ∧ (0 : Int) < ((8 : Nat) : Int)) ∧ True) rfl (by kernel_rfl) ⟨(by decide), trivial⟩ ?_
    refine RunR.step (dst := some 11) (op := .alloc 73) (by kernel_rfl) (Step.alloc hU 4 32 (.agg #[.int .i64 0, .int .i64 0, .int .i64 0, .int .i64 0]) rfl (by kernel_rfl) (fun b11 => ?_))
    refine RunR.step (dst := none) (op := .store 73 (.tmp 11) (.tmp 25)) (by kernel_rfl) (Step.store_arr hU 0 b11 73 4 .i64 (List.replicate 4 (0 : Int)) ([0,  4,  8,  12] : List Int) (by kernel_rfl) (by kernel_rfl) (by kernel_rfl) (by kernel_rfl) (by first | rfl | omega | (simp; done)) (by first | rfl | omega | (simp; done)) ?_)
    have hl12 : (([0,  4,  8,  12] : List Int)).length = 4 := rfl
    refine RunR.done (by kernel_rfl) ?_
    refine kseq_n ?_
    refine RunC.region ?_
    refine RunR.step (dst := some 26) (op := .load 73 (.tmp 11)) (by kernel_rfl) (Step.load_arr hU 0 b11 73 4 .i64 ([0,  4,  8,  12] : List Int) (by kernel_rfl) (by kernel_rfl) (by kernel_rfl) (by kernel_rfl) (by first | rfl | omega | (simp; done)) (by kernel_rfl) ?_)
    refine RunR.step (dst := some 27) (op := .call { callee := .value (.func 58), args := #[.tmp 8, .tmp 26], argTypes := #[87, 73] }) (by kernel_rfl) (Step.call 58 [.pointer (some ⟨b7, 0, none⟩), .agg (nums .i64 ([0,  4,  8,  12] : List Int)).toArray] (by kernel_rfl) (by kernel_rfl) [blk b7 87 (nums .u32 vs)] [] [blk b11 73 (nums .i64 ([0,  4,  8,  12] : List Int)), blk b8 89 (nums .i64 ([0, 4, 8, 12, 1, 5, 9, 13, 2, 6, 10, 14, 3, 7, 11, 15, 0, 5, 10, 15, 1, 6, 11, 12, 2, 7, 8, 13, 3, 4, 9, 14] : List Int)), blk b6 87 (nums .u32 zs3), vw A (nums .u8 xs), vw A2 (nums .u8 ys)] (c_quarter_spec b7 vs 0 4 8 12 (by first | rfl | assumption | omega | (simp only [List.length_append, List.length_cons, List.length_nil, List.length_set, List.length_replicate, List.length_take, List.length_drop]; omega) | (simp; done)) (by first | assumption | omega | (simp only [List.length_append, List.length_cons, List.length_nil, List.length_set, List.length_replicate, List.length_take, List.length_drop]; omega) | (simp only [fits] at *; omega) | (simp only [List.length_append, List.length_cons, List.length_nil, List.length_set, List.length_replicate, List.length_take, List.length_drop] at *; omega) | (simp; done) | decide) (by first | assumption | omega | (simp only [List.length_append, List.length_cons, List.length_nil, List.length_set, List.length_replicate, List.length_take, List.length_drop]; omega) | (simp only [fits] at *; omega) | (simp only [List.length_append, List.length_cons, List.length_nil, List.length_set, List.length_replicate, List.length_take, List.length_drop] at *; omega) | (simp; done) | decide) (by first | assumption | omega | (simp only [List.length_append, List.length_cons, List.length_nil, List.length_set, List.length_replicate, List.length_take, List.length_drop]; omega) | (simp only [fits] at *; omega) | (simp only [List.length_append, List.length_cons, List.length_nil, List.length_set, List.length_replicate, List.length_take, List.length_drop] at *; omega) | (simp; done) | decide) (by first | assumption | omega | (simp only [List.length_append, List.length_cons, List.length_nil, List.length_set, List.length_replicate, List.length_take, List.length_drop]; omega) | (simp only [fits] at *; omega) | (simp only [List.length_append, List.length_cons, List.length_nil, List.length_set, List.length_replicate, List.length_take, List.length_drop] at *; omega) | (simp; done) | decide)) [1] (by kernel_rfl) (Lend.nil _) ?_)
    rintro _ _ ⟨zs13, rfl, rfl, hp14, hp15⟩
    refine RunR.done (by kernel_rfl) ?_
    refine kblock_n ?_
    refine kseq_n ?_
    refine RunC.region ?_
    refine RunR.sil hU [0] 2 2 [6, 7, 8, 9, 11, 20, 22, 23, 24, 25, 26, 28] [(6, .slice none 0 0), (7, .pointer (some ⟨b6, 0, none⟩)), (8, .pointer (some ⟨b7, 0, none⟩)), (9, .pointer (some ⟨b8, 0, none⟩)), (11, .pointer (some ⟨b11, 0, none⟩)), (20, .int .i64 i), (22, .agg (nums .i64 ([0, 4, 8, 12, 1, 5, 9, 13, 2, 6, 10, 14, 3, 7, 11, 15, 0, 5, 10, 15, 1, 6, 11, 12, 2, 7, 8, 13, 3, 4, 9, 14] : List Int)).toArray), (23, .int .i64 1), (24, .bool true), (25, .agg (nums .i64 ([0,  4,  8,  12] : List Int)).toArray), (26, .agg (nums .i64 ([0,  4,  8,  12] : List Int)).toArray), (28, .int .i64 1)] ((-9223372036854775808 ≤ ((0 : Int) + 1) ∧ ((0 : Int) + 1) < 9223372036854775808) ∧ (True) ∧ True) rfl (by kernel_rfl) ⟨(by decide), trivial, trivial⟩ ?_
    refine RunR.done (by kernel_rfl) ?_
    refine kround_n ?_
    refine RunC.seq ?_
    refine RunC.region ?_
    refine RunR.sil hU [] 1 1 [6, 7, 8, 9, 11, 20, 22, 23, 24, 25, 26, 28] [(6, .slice none 0 0), (7, .pointer (some ⟨b6, 0, none⟩)), (8, .pointer (some ⟨b7, 0, none⟩)), (9, .pointer (some ⟨b8, 0, none⟩)), (11, .pointer (some ⟨b11, 0, none⟩)), (20, .int .i64 i), (22, .agg (nums .i64 ([0, 4, 8, 12, 1, 5, 9, 13, 2, 6, 10, 14, 3, 7, 11, 15, 0, 5, 10, 15, 1, 6, 11, 12, 2, 7, 8, 13, 3, 4, 9, 14] : List Int)).toArray), (23, .int .i64 1), (24, .bool true), (25, .agg (nums .i64 ([0,  4,  8,  12] : List Int)).toArray), (26, .agg (nums .i64 ([0,  4,  8,  12] : List Int)).toArray), (28, .int .i64 1)] ((True) ∧ True) rfl (by kernel_rfl) ⟨trivial, trivial⟩ ?_
    refine RunR.done (by kernel_rfl) ?_
    refine kseq_n ?_
    refine RunC.seq ?_
    refine RunC.cond (b := true) (by kernel_rfl) (fun _ => ?_) (fun h => by cases h)
    refine RunC.skip ?_
    refine kseq_n ?_
    refine RunC.seq ?_
    refine RunC.block ?_
    refine RunC.seq ?_
    refine RunC.region ?_
    refine RunR.sil hU [] 1 1 [6, 7, 8, 9, 11, 20, 22, 23, 24, 25, 26, 28] [(6, .slice none 0 0), (7, .pointer (some ⟨b6, 0, none⟩)), (8, .pointer (some ⟨b7, 0, none⟩)), (9, .pointer (some ⟨b8, 0, none⟩)), (11, .pointer (some ⟨b11, 0, none⟩)), (20, .int .i64 i), (22, .agg (nums .i64 ([0, 4, 8, 12, 1, 5, 9, 13, 2, 6, 10, 14, 3, 7, 11, 15, 0, 5, 10, 15, 1, 6, 11, 12, 2, 7, 8, 13, 3, 4, 9, 14] : List Int)).toArray), (23, .int .i64 1), (24, .bool true), (25, .agg (nums .i64 ([ 1,  5,  9,  13] : List Int)).toArray), (26, .agg (nums .i64 ([0,  4,  8,  12] : List Int)).toArray), (28, .int .i64 1)] ((0 ≤ (1 : Int) ∧ (1 : Int) < ((8 : Nat) : Int)) ∧ True) rfl (by kernel_rfl) ⟨(by decide), trivial⟩ ?_
    refine RunR.step (dst := some 11) (op := .alloc 73) (by kernel_rfl) (Step.alloc hU 4 32 (.agg #[.int .i64 0, .int .i64 0, .int .i64 0, .int .i64 0]) rfl (by kernel_rfl) (fun b16 => ?_))
    refine RunR.step (dst := none) (op := .store 73 (.tmp 11) (.tmp 25)) (by kernel_rfl) (Step.store_arr hU 0 b16 73 4 .i64 (List.replicate 4 (0 : Int)) ([ 1,  5,  9,  13] : List Int) (by kernel_rfl) (by kernel_rfl) (by kernel_rfl) (by kernel_rfl) (by first | rfl | omega | (simp; done)) (by first | rfl | omega | (simp; done)) ?_)
    have hl17 : (([ 1,  5,  9,  13] : List Int)).length = 4 := rfl
    refine RunR.done (by kernel_rfl) ?_
    refine kseq_n ?_
    refine RunC.region ?_
    refine RunR.step (dst := some 26) (op := .load 73 (.tmp 11)) (by kernel_rfl) (Step.load_arr hU 0 b16 73 4 .i64 ([ 1,  5,  9,  13] : List Int) (by kernel_rfl) (by kernel_rfl) (by kernel_rfl) (by kernel_rfl) (by first | rfl | omega | (simp; done)) (by kernel_rfl) ?_)
    refine RunR.step (dst := some 27) (op := .call { callee := .value (.func 58), args := #[.tmp 8, .tmp 26], argTypes := #[87, 73] }) (by kernel_rfl) (Step.call 58 [.pointer (some ⟨b7, 0, none⟩), .agg (nums .i64 ([ 1,  5,  9,  13] : List Int)).toArray] (by kernel_rfl) (by kernel_rfl) [blk b7 87 (nums .u32 zs13)] [] [blk b16 73 (nums .i64 ([ 1,  5,  9,  13] : List Int)), blk b11 73 (nums .i64 ([0,  4,  8,  12] : List Int)), blk b8 89 (nums .i64 ([0, 4, 8, 12, 1, 5, 9, 13, 2, 6, 10, 14, 3, 7, 11, 15, 0, 5, 10, 15, 1, 6, 11, 12, 2, 7, 8, 13, 3, 4, 9, 14] : List Int)), blk b6 87 (nums .u32 zs3), vw A (nums .u8 xs), vw A2 (nums .u8 ys)] (c_quarter_spec b7 zs13 1 5 9 13 (by first | rfl | assumption | omega | (simp only [List.length_append, List.length_cons, List.length_nil, List.length_set, List.length_replicate, List.length_take, List.length_drop]; omega) | (simp; done)) (by first | assumption | omega | (simp only [List.length_append, List.length_cons, List.length_nil, List.length_set, List.length_replicate, List.length_take, List.length_drop]; omega) | (simp only [fits] at *; omega) | (simp only [List.length_append, List.length_cons, List.length_nil, List.length_set, List.length_replicate, List.length_take, List.length_drop] at *; omega) | (simp; done) | decide) (by first | assumption | omega | (simp only [List.length_append, List.length_cons, List.length_nil, List.length_set, List.length_replicate, List.length_take, List.length_drop]; omega) | (simp only [fits] at *; omega) | (simp only [List.length_append, List.length_cons, List.length_nil, List.length_set, List.length_replicate, List.length_take, List.length_drop] at *; omega) | (simp; done) | decide) (by first | assumption | omega | (simp only [List.length_append, List.length_cons, List.length_nil, List.length_set, List.length_replicate, List.length_take, List.length_drop]; omega) | (simp only [fits] at *; omega) | (simp only [List.length_append, List.length_cons, List.length_nil, List.length_set, List.length_replicate, List.length_take, List.length_drop] at *; omega) | (simp; done) | decide) (by first | assumption | omega | (simp only [List.length_append, List.length_cons, List.length_nil, List.length_set, List.length_replicate, List.length_take, List.length_drop]; omega) | (simp only [fits] at *; omega) | (simp only [List.length_append, List.length_cons, List.length_nil, List.length_set, List.length_replicate, List.length_take, List.length_drop] at *; omega) | (simp; done) | decide)) [1] (by kernel_rfl) (Lend.nil _) ?_)
    rintro _ _ ⟨zs18, rfl, rfl, hp19, hp20⟩
    refine RunR.done (by kernel_rfl) ?_
    refine kblock_n ?_
    refine kseq_n ?_
    refine RunC.region ?_
    refine RunR.sil hU [0] 2 2 [6, 7, 8, 9, 11, 20, 22, 23, 24, 25, 26, 28] [(6, .slice none 0 0), (7, .pointer (some ⟨b6, 0, none⟩)), (8, .pointer (some ⟨b7, 0, none⟩)), (9, .pointer (some ⟨b8, 0, none⟩)), (11, .pointer (some ⟨b16, 0, none⟩)), (20, .int .i64 i), (22, .agg (nums .i64 ([0, 4, 8, 12, 1, 5, 9, 13, 2, 6, 10, 14, 3, 7, 11, 15, 0, 5, 10, 15, 1, 6, 11, 12, 2, 7, 8, 13, 3, 4, 9, 14] : List Int)).toArray), (23, .int .i64 2), (24, .bool true), (25, .agg (nums .i64 ([ 1,  5,  9,  13] : List Int)).toArray), (26, .agg (nums .i64 ([ 1,  5,  9,  13] : List Int)).toArray), (28, .int .i64 2)] ((-9223372036854775808 ≤ ((1 : Int) + 1) ∧ ((1 : Int) + 1) < 9223372036854775808) ∧ (True) ∧ True) rfl (by kernel_rfl) ⟨(by decide), trivial, trivial⟩ ?_
    refine RunR.done (by kernel_rfl) ?_
    refine kround_n ?_
    refine RunC.seq ?_
    refine RunC.region ?_
    refine RunR.sil hU [] 1 1 [6, 7, 8, 9, 11, 20, 22, 23, 24, 25, 26, 28] [(6, .slice none 0 0), (7, .pointer (some ⟨b6, 0, none⟩)), (8, .pointer (some ⟨b7, 0, none⟩)), (9, .pointer (some ⟨b8, 0, none⟩)), (11, .pointer (some ⟨b16, 0, none⟩)), (20, .int .i64 i), (22, .agg (nums .i64 ([0, 4, 8, 12, 1, 5, 9, 13, 2, 6, 10, 14, 3, 7, 11, 15, 0, 5, 10, 15, 1, 6, 11, 12, 2, 7, 8, 13, 3, 4, 9, 14] : List Int)).toArray), (23, .int .i64 2), (24, .bool true), (25, .agg (nums .i64 ([ 1,  5,  9,  13] : List Int)).toArray), (26, .agg (nums .i64 ([ 1,  5,  9,  13] : List Int)).toArray), (28, .int .i64 2)] ((True) ∧ True) rfl (by kernel_rfl) ⟨trivial, trivial⟩ ?_
    refine RunR.done (by kernel_rfl) ?_
    refine kseq_n ?_
    refine RunC.seq ?_
    refine RunC.cond (b := true) (by kernel_rfl) (fun _ => ?_) (fun h => by cases h)
    refine RunC.skip ?_
    refine kseq_n ?_
    refine RunC.seq ?_
    refine RunC.block ?_
    refine RunC.seq ?_
    refine RunC.region ?_
    refine RunR.sil hU [] 1 1 [6, 7, 8, 9, 11, 20, 22, 23, 24, 25, 26, 28] [(6, .slice none 0 0), (7, .pointer (some ⟨b6, 0, none⟩)), (8, .pointer (some ⟨b7, 0, none⟩)), (9, .pointer (some ⟨b8, 0, none⟩)), (11, .pointer (some ⟨b16, 0, none⟩)), (20, .int .i64 i), (22, .agg (nums .i64 ([0, 4, 8, 12, 1, 5, 9, 13, 2, 6, 10, 14, 3, 7, 11, 15, 0, 5, 10, 15, 1, 6, 11, 12, 2, 7, 8, 13, 3, 4, 9, 14] : List Int)).toArray), (23, .int .i64 2), (24, .bool true), (25, .agg (nums .i64 ([ 2,  6,  10,  14] : List Int)).toArray), (26, .agg (nums .i64 ([ 1,  5,  9,  13] : List Int)).toArray), (28, .int .i64 2)] ((0 ≤ (2 : Int) ∧ (2 : Int) < ((8 : Nat) : Int)) ∧ True) rfl (by kernel_rfl) ⟨(by decide), trivial⟩ ?_
    refine RunR.step (dst := some 11) (op := .alloc 73) (by kernel_rfl) (Step.alloc hU 4 32 (.agg #[.int .i64 0, .int .i64 0, .int .i64 0, .int .i64 0]) rfl (by kernel_rfl) (fun b21 => ?_))
    refine RunR.step (dst := none) (op := .store 73 (.tmp 11) (.tmp 25)) (by kernel_rfl) (Step.store_arr hU 0 b21 73 4 .i64 (List.replicate 4 (0 : Int)) ([ 2,  6,  10,  14] : List Int) (by kernel_rfl) (by kernel_rfl) (by kernel_rfl) (by kernel_rfl) (by first | rfl | omega | (simp; done)) (by first | rfl | omega | (simp; done)) ?_)
    have hl22 : (([ 2,  6,  10,  14] : List Int)).length = 4 := rfl
    refine RunR.done (by kernel_rfl) ?_
    refine kseq_n ?_
    refine RunC.region ?_
    refine RunR.step (dst := some 26) (op := .load 73 (.tmp 11)) (by kernel_rfl) (Step.load_arr hU 0 b21 73 4 .i64 ([ 2,  6,  10,  14] : List Int) (by kernel_rfl) (by kernel_rfl) (by kernel_rfl) (by kernel_rfl) (by first | rfl | omega | (simp; done)) (by kernel_rfl) ?_)
    refine RunR.step (dst := some 27) (op := .call { callee := .value (.func 58), args := #[.tmp 8, .tmp 26], argTypes := #[87, 73] }) (by kernel_rfl) (Step.call 58 [.pointer (some ⟨b7, 0, none⟩), .agg (nums .i64 ([ 2,  6,  10,  14] : List Int)).toArray] (by kernel_rfl) (by kernel_rfl) [blk b7 87 (nums .u32 zs18)] [] [blk b21 73 (nums .i64 ([ 2,  6,  10,  14] : List Int)), blk b16 73 (nums .i64 ([ 1,  5,  9,  13] : List Int)), blk b11 73 (nums .i64 ([0,  4,  8,  12] : List Int)), blk b8 89 (nums .i64 ([0, 4, 8, 12, 1, 5, 9, 13, 2, 6, 10, 14, 3, 7, 11, 15, 0, 5, 10, 15, 1, 6, 11, 12, 2, 7, 8, 13, 3, 4, 9, 14] : List Int)), blk b6 87 (nums .u32 zs3), vw A (nums .u8 xs), vw A2 (nums .u8 ys)] (c_quarter_spec b7 zs18 2 6 10 14 (by first | rfl | assumption | omega | (simp only [List.length_append, List.length_cons, List.length_nil, List.length_set, List.length_replicate, List.length_take, List.length_drop]; omega) | (simp; done)) (by first | assumption | omega | (simp only [List.length_append, List.length_cons, List.length_nil, List.length_set, List.length_replicate, List.length_take, List.length_drop]; omega) | (simp only [fits] at *; omega) | (simp only [List.length_append, List.length_cons, List.length_nil, List.length_set, List.length_replicate, List.length_take, List.length_drop] at *; omega) | (simp; done) | decide) (by first | assumption | omega | (simp only [List.length_append, List.length_cons, List.length_nil, List.length_set, List.length_replicate, List.length_take, List.length_drop]; omega) | (simp only [fits] at *; omega) | (simp only [List.length_append, List.length_cons, List.length_nil, List.length_set, List.length_replicate, List.length_take, List.length_drop] at *; omega) | (simp; done) | decide) (by first | assumption | omega | (simp only [List.length_append, List.length_cons, List.length_nil, List.length_set, List.length_replicate, List.length_take, List.length_drop]; omega) | (simp only [fits] at *; omega) | (simp only [List.length_append, List.length_cons, List.length_nil, List.length_set, List.length_replicate, List.length_take, List.length_drop] at *; omega) | (simp; done) | decide) (by first | assumption | omega | (simp only [List.length_append, List.length_cons, List.length_nil, List.length_set, List.length_replicate, List.length_take, List.length_drop]; omega) | (simp only [fits] at *; omega) | (simp only [List.length_append, List.length_cons, List.length_nil, List.length_set, List.length_replicate, List.length_take, List.length_drop] at *; omega) | (simp; done) | decide)) [1] (by kernel_rfl) (Lend.nil _) ?_)
    rintro _ _ ⟨zs23, rfl, rfl, hp24, hp25⟩
    refine RunR.done (by kernel_rfl) ?_
    refine kblock_n ?_
    refine kseq_n ?_
    refine RunC.region ?_
    refine RunR.sil hU [0] 2 2 [6, 7, 8, 9, 11, 20, 22, 23, 24, 25, 26, 28] [(6, .slice none 0 0), (7, .pointer (some ⟨b6, 0, none⟩)), (8, .pointer (some ⟨b7, 0, none⟩)), (9, .pointer (some ⟨b8, 0, none⟩)), (11, .pointer (some ⟨b21, 0, none⟩)), (20, .int .i64 i), (22, .agg (nums .i64 ([0, 4, 8, 12, 1, 5, 9, 13, 2, 6, 10, 14, 3, 7, 11, 15, 0, 5, 10, 15, 1, 6, 11, 12, 2, 7, 8, 13, 3, 4, 9, 14] : List Int)).toArray), (23, .int .i64 3), (24, .bool true), (25, .agg (nums .i64 ([ 2,  6,  10,  14] : List Int)).toArray), (26, .agg (nums .i64 ([ 2,  6,  10,  14] : List Int)).toArray), (28, .int .i64 3)] ((-9223372036854775808 ≤ ((2 : Int) + 1) ∧ ((2 : Int) + 1) < 9223372036854775808) ∧ (True) ∧ True) rfl (by kernel_rfl) ⟨(by decide), trivial, trivial⟩ ?_
    refine RunR.done (by kernel_rfl) ?_
    refine kround_n ?_
    refine RunC.seq ?_
    refine RunC.region ?_
    refine RunR.sil hU [] 1 1 [6, 7, 8, 9, 11, 20, 22, 23, 24, 25, 26, 28] [(6, .slice none 0 0), (7, .pointer (some ⟨b6, 0, none⟩)), (8, .pointer (some ⟨b7, 0, none⟩)), (9, .pointer (some ⟨b8, 0, none⟩)), (11, .pointer (some ⟨b21, 0, none⟩)), (20, .int .i64 i), (22, .agg (nums .i64 ([0, 4, 8, 12, 1, 5, 9, 13, 2, 6, 10, 14, 3, 7, 11, 15, 0, 5, 10, 15, 1, 6, 11, 12, 2, 7, 8, 13, 3, 4, 9, 14] : List Int)).toArray), (23, .int .i64 3), (24, .bool true), (25, .agg (nums .i64 ([ 2,  6,  10,  14] : List Int)).toArray), (26, .agg (nums .i64 ([ 2,  6,  10,  14] : List Int)).toArray), (28, .int .i64 3)] ((True) ∧ True) rfl (by kernel_rfl) ⟨trivial, trivial⟩ ?_
    refine RunR.done (by kernel_rfl) ?_
    refine kseq_n ?_
    refine RunC.seq ?_
    refine RunC.cond (b := true) (by kernel_rfl) (fun _ => ?_) (fun h => by cases h)
    refine RunC.skip ?_
    refine kseq_n ?_
    refine RunC.seq ?_
    refine RunC.block ?_
    refine RunC.seq ?_
    refine RunC.region ?_
    refine RunR.sil hU [] 1 1 [6, 7, 8, 9, 11, 20, 22, 23, 24, 25, 26, 28] [(6, .slice none 0 0), (7, .pointer (some ⟨b6, 0, none⟩)), (8, .pointer (some ⟨b7, 0, none⟩)), (9, .pointer (some ⟨b8, 0, none⟩)), (11, .pointer (some ⟨b21, 0, none⟩)), (20, .int .i64 i), (22, .agg (nums .i64 ([0, 4, 8, 12, 1, 5, 9, 13, 2, 6, 10, 14, 3, 7, 11, 15, 0, 5, 10, 15, 1, 6, 11, 12, 2, 7, 8, 13, 3, 4, 9, 14] : List Int)).toArray), (23, .int .i64 3), (24, .bool true), (25, .agg (nums .i64 ([ 3,  7,  11,  15] : List Int)).toArray), (26, .agg (nums .i64 ([ 2,  6,  10,  14] : List Int)).toArray), (28, .int .i64 3)] ((0 ≤ (3 : Int) ∧ (3 : Int) < ((8 : Nat) : Int)) ∧ True) rfl (by kernel_rfl) ⟨(by decide), trivial⟩ ?_
    refine RunR.step (dst := some 11) (op := .alloc 73) (by kernel_rfl) (Step.alloc hU 4 32 (.agg #[.int .i64 0, .int .i64 0, .int .i64 0, .int .i64 0]) rfl (by kernel_rfl) (fun b26 => ?_))
    refine RunR.step (dst := none) (op := .store 73 (.tmp 11) (.tmp 25)) (by kernel_rfl) (Step.store_arr hU 0 b26 73 4 .i64 (List.replicate 4 (0 : Int)) ([ 3,  7,  11,  15] : List Int) (by kernel_rfl) (by kernel_rfl) (by kernel_rfl) (by kernel_rfl) (by first | rfl | omega | (simp; done)) (by first | rfl | omega | (simp; done)) ?_)
    have hl27 : (([ 3,  7,  11,  15] : List Int)).length = 4 := rfl
    refine RunR.done (by kernel_rfl) ?_
    refine kseq_n ?_
    refine RunC.region ?_
    refine RunR.step (dst := some 26) (op := .load 73 (.tmp 11)) (by kernel_rfl) (Step.load_arr hU 0 b26 73 4 .i64 ([ 3,  7,  11,  15] : List Int) (by kernel_rfl) (by kernel_rfl) (by kernel_rfl) (by kernel_rfl) (by first | rfl | omega | (simp; done)) (by kernel_rfl) ?_)
    refine RunR.step (dst := some 27) (op := .call { callee := .value (.func 58), args := #[.tmp 8, .tmp 26], argTypes := #[87, 73] }) (by kernel_rfl) (Step.call 58 [.pointer (some ⟨b7, 0, none⟩), .agg (nums .i64 ([ 3,  7,  11,  15] : List Int)).toArray] (by kernel_rfl) (by kernel_rfl) [blk b7 87 (nums .u32 zs23)] [] [blk b26 73 (nums .i64 ([ 3,  7,  11,  15] : List Int)), blk b21 73 (nums .i64 ([ 2,  6,  10,  14] : List Int)), blk b16 73 (nums .i64 ([ 1,  5,  9,  13] : List Int)), blk b11 73 (nums .i64 ([0,  4,  8,  12] : List Int)), blk b8 89 (nums .i64 ([0, 4, 8, 12, 1, 5, 9, 13, 2, 6, 10, 14, 3, 7, 11, 15, 0, 5, 10, 15, 1, 6, 11, 12, 2, 7, 8, 13, 3, 4, 9, 14] : List Int)), blk b6 87 (nums .u32 zs3), vw A (nums .u8 xs), vw A2 (nums .u8 ys)] (c_quarter_spec b7 zs23 3 7 11 15 (by first | rfl | assumption | omega | (simp only [List.length_append, List.length_cons, List.length_nil, List.length_set, List.length_replicate, List.length_take, List.length_drop]; omega) | (simp; done)) (by first | assumption | omega | (simp only [List.length_append, List.length_cons, List.length_nil, List.length_set, List.length_replicate, List.length_take, List.length_drop]; omega) | (simp only [fits] at *; omega) | (simp only [List.length_append, List.length_cons, List.length_nil, List.length_set, List.length_replicate, List.length_take, List.length_drop] at *; omega) | (simp; done) | decide) (by first | assumption | omega | (simp only [List.length_append, List.length_cons, List.length_nil, List.length_set, List.length_replicate, List.length_take, List.length_drop]; omega) | (simp only [fits] at *; omega) | (simp only [List.length_append, List.length_cons, List.length_nil, List.length_set, List.length_replicate, List.length_take, List.length_drop] at *; omega) | (simp; done) | decide) (by first | assumption | omega | (simp only [List.length_append, List.length_cons, List.length_nil, List.length_set, List.length_replicate, List.length_take, List.length_drop]; omega) | (simp only [fits] at *; omega) | (simp only [List.length_append, List.length_cons, List.length_nil, List.length_set, List.length_replicate, List.length_take, List.length_drop] at *; omega) | (simp; done) | decide) (by first | assumption | omega | (simp only [List.length_append, List.length_cons, List.length_nil, List.length_set, List.length_replicate, List.length_take, List.length_drop]; omega) | (simp only [fits] at *; omega) | (simp only [List.length_append, List.length_cons, List.length_nil, List.length_set, List.length_replicate, List.length_take, List.length_drop] at *; omega) | (simp; done) | decide)) [1] (by kernel_rfl) (Lend.nil _) ?_)
    rintro _ _ ⟨zs28, rfl, rfl, hp29, hp30⟩
    refine RunR.done (by kernel_rfl) ?_
    refine kblock_n ?_
    refine kseq_n ?_
    refine RunC.region ?_
    refine RunR.sil hU [0] 2 2 [6, 7, 8, 9, 11, 20, 22, 23, 24, 25, 26, 28] [(6, .slice none 0 0), (7, .pointer (some ⟨b6, 0, none⟩)), (8, .pointer (some ⟨b7, 0, none⟩)), (9, .pointer (some ⟨b8, 0, none⟩)), (11, .pointer (some ⟨b26, 0, none⟩)), (20, .int .i64 i), (22, .agg (nums .i64 ([0, 4, 8, 12, 1, 5, 9, 13, 2, 6, 10, 14, 3, 7, 11, 15, 0, 5, 10, 15, 1, 6, 11, 12, 2, 7, 8, 13, 3, 4, 9, 14] : List Int)).toArray), (23, .int .i64 4), (24, .bool true), (25, .agg (nums .i64 ([ 3,  7,  11,  15] : List Int)).toArray), (26, .agg (nums .i64 ([ 3,  7,  11,  15] : List Int)).toArray), (28, .int .i64 4)] ((-9223372036854775808 ≤ ((3 : Int) + 1) ∧ ((3 : Int) + 1) < 9223372036854775808) ∧ (True) ∧ True) rfl (by kernel_rfl) ⟨(by decide), trivial, trivial⟩ ?_
    refine RunR.done (by kernel_rfl) ?_
    refine kround_n ?_
    refine RunC.seq ?_
    refine RunC.region ?_
    refine RunR.sil hU [] 1 1 [6, 7, 8, 9, 11, 20, 22, 23, 24, 25, 26, 28] [(6, .slice none 0 0), (7, .pointer (some ⟨b6, 0, none⟩)), (8, .pointer (some ⟨b7, 0, none⟩)), (9, .pointer (some ⟨b8, 0, none⟩)), (11, .pointer (some ⟨b26, 0, none⟩)), (20, .int .i64 i), (22, .agg (nums .i64 ([0, 4, 8, 12, 1, 5, 9, 13, 2, 6, 10, 14, 3, 7, 11, 15, 0, 5, 10, 15, 1, 6, 11, 12, 2, 7, 8, 13, 3, 4, 9, 14] : List Int)).toArray), (23, .int .i64 4), (24, .bool true), (25, .agg (nums .i64 ([ 3,  7,  11,  15] : List Int)).toArray), (26, .agg (nums .i64 ([ 3,  7,  11,  15] : List Int)).toArray), (28, .int .i64 4)] ((True) ∧ True) rfl (by kernel_rfl) ⟨trivial, trivial⟩ ?_
    refine RunR.done (by kernel_rfl) ?_
    refine kseq_n ?_
    refine RunC.seq ?_
    refine RunC.cond (b := true) (by kernel_rfl) (fun _ => ?_) (fun h => by cases h)
    refine RunC.skip ?_
    refine kseq_n ?_
    refine RunC.seq ?_
    refine RunC.block ?_
    refine RunC.seq ?_
    refine RunC.region ?_
    refine RunR.sil hU [] 1 1 [6, 7, 8, 9, 11, 20, 22, 23, 24, 25, 26, 28] [(6, .slice none 0 0), (7, .pointer (some ⟨b6, 0, none⟩)), (8, .pointer (some ⟨b7, 0, none⟩)), (9, .pointer (some ⟨b8, 0, none⟩)), (11, .pointer (some ⟨b26, 0, none⟩)), (20, .int .i64 i), (22, .agg (nums .i64 ([0, 4, 8, 12, 1, 5, 9, 13, 2, 6, 10, 14, 3, 7, 11, 15, 0, 5, 10, 15, 1, 6, 11, 12, 2, 7, 8, 13, 3, 4, 9, 14] : List Int)).toArray), (23, .int .i64 4), (24, .bool true), (25, .agg (nums .i64 ([ 0,  5,  10,  15] : List Int)).toArray), (26, .agg (nums .i64 ([ 3,  7,  11,  15] : List Int)).toArray), (28, .int .i64 4)] ((0 ≤ (4 : Int) ∧ (4 : Int) < ((8 : Nat) : Int)) ∧ True) rfl (by kernel_rfl) ⟨(by decide), trivial⟩ ?_
    refine RunR.step (dst := some 11) (op := .alloc 73) (by kernel_rfl) (Step.alloc hU 4 32 (.agg #[.int .i64 0, .int .i64 0, .int .i64 0, .int .i64 0]) rfl (by kernel_rfl) (fun b31 => ?_))
    refine RunR.step (dst := none) (op := .store 73 (.tmp 11) (.tmp 25)) (by kernel_rfl) (Step.store_arr hU 0 b31 73 4 .i64 (List.replicate 4 (0 : Int)) ([ 0,  5,  10,  15] : List Int) (by kernel_rfl) (by kernel_rfl) (by kernel_rfl) (by kernel_rfl) (by first | rfl | omega | (simp; done)) (by first | rfl | omega | (simp; done)) ?_)
    have hl32 : (([ 0,  5,  10,  15] : List Int)).length = 4 := rfl
    refine RunR.done (by kernel_rfl) ?_
    refine kseq_n ?_
    refine RunC.region ?_
    refine RunR.step (dst := some 26) (op := .load 73 (.tmp 11)) (by kernel_rfl) (Step.load_arr hU 0 b31 73 4 .i64 ([ 0,  5,  10,  15] : List Int) (by kernel_rfl) (by kernel_rfl) (by kernel_rfl) (by kernel_rfl) (by first | rfl | omega | (simp; done)) (by kernel_rfl) ?_)
    refine RunR.step (dst := some 27) (op := .call { callee := .value (.func 58), args := #[.tmp 8, .tmp 26], argTypes := #[87, 73] }) (by kernel_rfl) (Step.call 58 [.pointer (some ⟨b7, 0, none⟩), .agg (nums .i64 ([ 0,  5,  10,  15] : List Int)).toArray] (by kernel_rfl) (by kernel_rfl) [blk b7 87 (nums .u32 zs28)] [] [blk b31 73 (nums .i64 ([ 0,  5,  10,  15] : List Int)), blk b26 73 (nums .i64 ([ 3,  7,  11,  15] : List Int)), blk b21 73 (nums .i64 ([ 2,  6,  10,  14] : List Int)), blk b16 73 (nums .i64 ([ 1,  5,  9,  13] : List Int)), blk b11 73 (nums .i64 ([0,  4,  8,  12] : List Int)), blk b8 89 (nums .i64 ([0, 4, 8, 12, 1, 5, 9, 13, 2, 6, 10, 14, 3, 7, 11, 15, 0, 5, 10, 15, 1, 6, 11, 12, 2, 7, 8, 13, 3, 4, 9, 14] : List Int)), blk b6 87 (nums .u32 zs3), vw A (nums .u8 xs), vw A2 (nums .u8 ys)] (c_quarter_spec b7 zs28 0 5 10 15 (by first | rfl | assumption | omega | (simp only [List.length_append, List.length_cons, List.length_nil, List.length_set, List.length_replicate, List.length_take, List.length_drop]; omega) | (simp; done)) (by first | assumption | omega | (simp only [List.length_append, List.length_cons, List.length_nil, List.length_set, List.length_replicate, List.length_take, List.length_drop]; omega) | (simp only [fits] at *; omega) | (simp only [List.length_append, List.length_cons, List.length_nil, List.length_set, List.length_replicate, List.length_take, List.length_drop] at *; omega) | (simp; done) | decide) (by first | assumption | omega | (simp only [List.length_append, List.length_cons, List.length_nil, List.length_set, List.length_replicate, List.length_take, List.length_drop]; omega) | (simp only [fits] at *; omega) | (simp only [List.length_append, List.length_cons, List.length_nil, List.length_set, List.length_replicate, List.length_take, List.length_drop] at *; omega) | (simp; done) | decide) (by first | assumption | omega | (simp only [List.length_append, List.length_cons, List.length_nil, List.length_set, List.length_replicate, List.length_take, List.length_drop]; omega) | (simp only [fits] at *; omega) | (simp only [List.length_append, List.length_cons, List.length_nil, List.length_set, List.length_replicate, List.length_take, List.length_drop] at *; omega) | (simp; done) | decide) (by first | assumption | omega | (simp only [List.length_append, List.length_cons, List.length_nil, List.length_set, List.length_replicate, List.length_take, List.length_drop]; omega) | (simp only [fits] at *; omega) | (simp only [List.length_append, List.length_cons, List.length_nil, List.length_set, List.length_replicate, List.length_take, List.length_drop] at *; omega) | (simp; done) | decide)) [1] (by kernel_rfl) (Lend.nil _) ?_)
    rintro _ _ ⟨zs33, rfl, rfl, hp34, hp35⟩
    refine RunR.done (by kernel_rfl) ?_
    refine kblock_n ?_
    refine kseq_n ?_
    refine RunC.region ?_
    refine RunR.sil hU [0] 2 2 [6, 7, 8, 9, 11, 20, 22, 23, 24, 25, 26, 28] [(6, .slice none 0 0), (7, .pointer (some ⟨b6, 0, none⟩)), (8, .pointer (some ⟨b7, 0, none⟩)), (9, .pointer (some ⟨b8, 0, none⟩)), (11, .pointer (some ⟨b31, 0, none⟩)), (20, .int .i64 i), (22, .agg (nums .i64 ([0, 4, 8, 12, 1, 5, 9, 13, 2, 6, 10, 14, 3, 7, 11, 15, 0, 5, 10, 15, 1, 6, 11, 12, 2, 7, 8, 13, 3, 4, 9, 14] : List Int)).toArray), (23, .int .i64 5), (24, .bool true), (25, .agg (nums .i64 ([ 0,  5,  10,  15] : List Int)).toArray), (26, .agg (nums .i64 ([ 0,  5,  10,  15] : List Int)).toArray), (28, .int .i64 5)] ((-9223372036854775808 ≤ ((4 : Int) + 1) ∧ ((4 : Int) + 1) < 9223372036854775808) ∧ (True) ∧ True) rfl (by kernel_rfl) ⟨(by decide), trivial, trivial⟩ ?_
    refine RunR.done (by kernel_rfl) ?_
    refine kround_n ?_
    refine RunC.seq ?_
    refine RunC.region ?_
    refine RunR.sil hU [] 1 1 [6, 7, 8, 9, 11, 20, 22, 23, 24, 25, 26, 28] [(6, .slice none 0 0), (7, .pointer (some ⟨b6, 0, none⟩)), (8, .pointer (some ⟨b7, 0, none⟩)), (9, .pointer (some ⟨b8, 0, none⟩)), (11, .pointer (some ⟨b31, 0, none⟩)), (20, .int .i64 i), (22, .agg (nums .i64 ([0, 4, 8, 12, 1, 5, 9, 13, 2, 6, 10, 14, 3, 7, 11, 15, 0, 5, 10, 15, 1, 6, 11, 12, 2, 7, 8, 13, 3, 4, 9, 14] : List Int)).toArray), (23, .int .i64 5), (24, .bool true), (25, .agg (nums .i64 ([ 0,  5,  10,  15] : List Int)).toArray), (26, .agg (nums .i64 ([ 0,  5,  10,  15] : List Int)).toArray), (28, .int .i64 5)] ((True) ∧ True) rfl (by kernel_rfl) ⟨trivial, trivial⟩ ?_
    refine RunR.done (by kernel_rfl) ?_
    refine kseq_n ?_
    refine RunC.seq ?_
    refine RunC.cond (b := true) (by kernel_rfl) (fun _ => ?_) (fun h => by cases h)
    refine RunC.skip ?_
    refine kseq_n ?_
    refine RunC.seq ?_
    refine RunC.block ?_
    refine RunC.seq ?_
    refine RunC.region ?_
    refine RunR.sil hU [] 1 1 [6, 7, 8, 9, 11, 20, 22, 23, 24, 25, 26, 28] [(6, .slice none 0 0), (7, .pointer (some ⟨b6, 0, none⟩)), (8, .pointer (some ⟨b7, 0, none⟩)), (9, .pointer (some ⟨b8, 0, none⟩)), (11, .pointer (some ⟨b31, 0, none⟩)), (20, .int .i64 i), (22, .agg (nums .i64 ([0, 4, 8, 12, 1, 5, 9, 13, 2, 6, 10, 14, 3, 7, 11, 15, 0, 5, 10, 15, 1, 6, 11, 12, 2, 7, 8, 13, 3, 4, 9, 14] : List Int)).toArray), (23, .int .i64 5), (24, .bool true), (25, .agg (nums .i64 ([ 1,  6,  11,  12] : List Int)).toArray), (26, .agg (nums .i64 ([ 0,  5,  10,  15] : List Int)).toArray), (28, .int .i64 5)] ((0 ≤ (5 : Int) ∧ (5 : Int) < ((8 : Nat) : Int)) ∧ True) rfl (by kernel_rfl) ⟨(by decide), trivial⟩ ?_
    refine RunR.step (dst := some 11) (op := .alloc 73) (by kernel_rfl) (Step.alloc hU 4 32 (.agg #[.int .i64 0, .int .i64 0, .int .i64 0, .int .i64 0]) rfl (by kernel_rfl) (fun b36 => ?_))
    refine RunR.step (dst := none) (op := .store 73 (.tmp 11) (.tmp 25)) (by kernel_rfl) (Step.store_arr hU 0 b36 73 4 .i64 (List.replicate 4 (0 : Int)) ([ 1,  6,  11,  12] : List Int) (by kernel_rfl) (by kernel_rfl) (by kernel_rfl) (by kernel_rfl) (by first | rfl | omega | (simp; done)) (by first | rfl | omega | (simp; done)) ?_)
    have hl37 : (([ 1,  6,  11,  12] : List Int)).length = 4 := rfl
    refine RunR.done (by kernel_rfl) ?_
    refine kseq_n ?_
    refine RunC.region ?_
    refine RunR.step (dst := some 26) (op := .load 73 (.tmp 11)) (by kernel_rfl) (Step.load_arr hU 0 b36 73 4 .i64 ([ 1,  6,  11,  12] : List Int) (by kernel_rfl) (by kernel_rfl) (by kernel_rfl) (by kernel_rfl) (by first | rfl | omega | (simp; done)) (by kernel_rfl) ?_)
    refine RunR.step (dst := some 27) (op := .call { callee := .value (.func 58), args := #[.tmp 8, .tmp 26], argTypes := #[87, 73] }) (by kernel_rfl) (Step.call 58 [.pointer (some ⟨b7, 0, none⟩), .agg (nums .i64 ([ 1,  6,  11,  12] : List Int)).toArray] (by kernel_rfl) (by kernel_rfl) [blk b7 87 (nums .u32 zs33)] [] [blk b36 73 (nums .i64 ([ 1,  6,  11,  12] : List Int)), blk b31 73 (nums .i64 ([ 0,  5,  10,  15] : List Int)), blk b26 73 (nums .i64 ([ 3,  7,  11,  15] : List Int)), blk b21 73 (nums .i64 ([ 2,  6,  10,  14] : List Int)), blk b16 73 (nums .i64 ([ 1,  5,  9,  13] : List Int)), blk b11 73 (nums .i64 ([0,  4,  8,  12] : List Int)), blk b8 89 (nums .i64 ([0, 4, 8, 12, 1, 5, 9, 13, 2, 6, 10, 14, 3, 7, 11, 15, 0, 5, 10, 15, 1, 6, 11, 12, 2, 7, 8, 13, 3, 4, 9, 14] : List Int)), blk b6 87 (nums .u32 zs3), vw A (nums .u8 xs), vw A2 (nums .u8 ys)] (c_quarter_spec b7 zs33 1 6 11 12 (by first | rfl | assumption | omega | (simp only [List.length_append, List.length_cons, List.length_nil, List.length_set, List.length_replicate, List.length_take, List.length_drop]; omega) | (simp; done)) (by first | assumption | omega | (simp only [List.length_append, List.length_cons, List.length_nil, List.length_set, List.length_replicate, List.length_take, List.length_drop]; omega) | (simp only [fits] at *; omega) | (simp only [List.length_append, List.length_cons, List.length_nil, List.length_set, List.length_replicate, List.length_take, List.length_drop] at *; omega) | (simp; done) | decide) (by first | assumption | omega | (simp only [List.length_append, List.length_cons, List.length_nil, List.length_set, List.length_replicate, List.length_take, List.length_drop]; omega) | (simp only [fits] at *; omega) | (simp only [List.length_append, List.length_cons, List.length_nil, List.length_set, List.length_replicate, List.length_take, List.length_drop] at *; omega) | (simp; done) | decide) (by first | assumption | omega | (simp only [List.length_append, List.length_cons, List.length_nil, List.length_set, List.length_replicate, List.length_take, List.length_drop]; omega) | (simp only [fits] at *; omega) | (simp only [List.length_append, List.length_cons, List.length_nil, List.length_set, List.length_replicate, List.length_take, List.length_drop] at *; omega) | (simp; done) | decide) (by first | assumption | omega | (simp only [List.length_append, List.length_cons, List.length_nil, List.length_set, List.length_replicate, List.length_take, List.length_drop]; omega) | (simp only [fits] at *; omega) | (simp only [List.length_append, List.length_cons, List.length_nil, List.length_set, List.length_replicate, List.length_take, List.length_drop] at *; omega) | (simp; done) | decide)) [1] (by kernel_rfl) (Lend.nil _) ?_)
    rintro _ _ ⟨zs38, rfl, rfl, hp39, hp40⟩
    refine RunR.done (by kernel_rfl) ?_
    refine kblock_n ?_
    refine kseq_n ?_
    refine RunC.region ?_
    refine RunR.sil hU [0] 2 2 [6, 7, 8, 9, 11, 20, 22, 23, 24, 25, 26, 28] [(6, .slice none 0 0), (7, .pointer (some ⟨b6, 0, none⟩)), (8, .pointer (some ⟨b7, 0, none⟩)), (9, .pointer (some ⟨b8, 0, none⟩)), (11, .pointer (some ⟨b36, 0, none⟩)), (20, .int .i64 i), (22, .agg (nums .i64 ([0, 4, 8, 12, 1, 5, 9, 13, 2, 6, 10, 14, 3, 7, 11, 15, 0, 5, 10, 15, 1, 6, 11, 12, 2, 7, 8, 13, 3, 4, 9, 14] : List Int)).toArray), (23, .int .i64 6), (24, .bool true), (25, .agg (nums .i64 ([ 1,  6,  11,  12] : List Int)).toArray), (26, .agg (nums .i64 ([ 1,  6,  11,  12] : List Int)).toArray), (28, .int .i64 6)] ((-9223372036854775808 ≤ ((5 : Int) + 1) ∧ ((5 : Int) + 1) < 9223372036854775808) ∧ (True) ∧ True) rfl (by kernel_rfl) ⟨(by decide), trivial, trivial⟩ ?_
    refine RunR.done (by kernel_rfl) ?_
    refine kround_n ?_
    refine RunC.seq ?_
    refine RunC.region ?_
    refine RunR.sil hU [] 1 1 [6, 7, 8, 9, 11, 20, 22, 23, 24, 25, 26, 28] [(6, .slice none 0 0), (7, .pointer (some ⟨b6, 0, none⟩)), (8, .pointer (some ⟨b7, 0, none⟩)), (9, .pointer (some ⟨b8, 0, none⟩)), (11, .pointer (some ⟨b36, 0, none⟩)), (20, .int .i64 i), (22, .agg (nums .i64 ([0, 4, 8, 12, 1, 5, 9, 13, 2, 6, 10, 14, 3, 7, 11, 15, 0, 5, 10, 15, 1, 6, 11, 12, 2, 7, 8, 13, 3, 4, 9, 14] : List Int)).toArray), (23, .int .i64 6), (24, .bool true), (25, .agg (nums .i64 ([ 1,  6,  11,  12] : List Int)).toArray), (26, .agg (nums .i64 ([ 1,  6,  11,  12] : List Int)).toArray), (28, .int .i64 6)] ((True) ∧ True) rfl (by kernel_rfl) ⟨trivial, trivial⟩ ?_
    refine RunR.done (by kernel_rfl) ?_
    refine kseq_n ?_
    refine RunC.seq ?_
    refine RunC.cond (b := true) (by kernel_rfl) (fun _ => ?_) (fun h => by cases h)
    refine RunC.skip ?_
    refine kseq_n ?_
    refine RunC.seq ?_
    refine RunC.block ?_
    refine RunC.seq ?_
    refine RunC.region ?_
    refine RunR.sil hU [] 1 1 [6, 7, 8, 9, 11, 20, 22, 23, 24, 25, 26, 28] [(6, .slice none 0 0), (7, .pointer (some ⟨b6, 0, none⟩)), (8, .pointer (some ⟨b7, 0, none⟩)), (9, .pointer (some ⟨b8, 0, none⟩)), (11, .pointer (some ⟨b36, 0, none⟩)), (20, .int .i64 i), (22, .agg (nums .i64 ([0, 4, 8, 12, 1, 5, 9, 13, 2, 6, 10, 14, 3, 7, 11, 15, 0, 5, 10, 15, 1, 6, 11, 12, 2, 7, 8, 13, 3, 4, 9, 14] : List Int)).toArray), (23, .int .i64 6), (24, .bool true), (25, .agg (nums .i64 ([ 2,  7,  8,  13] : List Int)).toArray), (26, .agg (nums .i64 ([ 1,  6,  11,  12] : List Int)).toArray), (28, .int .i64 6)] ((0 ≤ (6 : Int) ∧ (6 : Int) < ((8 : Nat) : Int)) ∧ True) rfl (by kernel_rfl) ⟨(by decide), trivial⟩ ?_
    refine RunR.step (dst := some 11) (op := .alloc 73) (by kernel_rfl) (Step.alloc hU 4 32 (.agg #[.int .i64 0, .int .i64 0, .int .i64 0, .int .i64 0]) rfl (by kernel_rfl) (fun b41 => ?_))
    refine RunR.step (dst := none) (op := .store 73 (.tmp 11) (.tmp 25)) (by kernel_rfl) (Step.store_arr hU 0 b41 73 4 .i64 (List.replicate 4 (0 : Int)) ([ 2,  7,  8,  13] : List Int) (by kernel_rfl) (by kernel_rfl) (by kernel_rfl) (by kernel_rfl) (by first | rfl | omega | (simp; done)) (by first | rfl | omega | (simp; done)) ?_)
    have hl42 : (([ 2,  7,  8,  13] : List Int)).length = 4 := rfl
    refine RunR.done (by kernel_rfl) ?_
    refine kseq_n ?_
    refine RunC.region ?_
    refine RunR.step (dst := some 26) (op := .load 73 (.tmp 11)) (by kernel_rfl) (Step.load_arr hU 0 b41 73 4 .i64 ([ 2,  7,  8,  13] : List Int) (by kernel_rfl) (by kernel_rfl) (by kernel_rfl) (by kernel_rfl) (by first | rfl | omega | (simp; done)) (by kernel_rfl) ?_)
    refine RunR.step (dst := some 27) (op := .call { callee := .value (.func 58), args := #[.tmp 8, .tmp 26], argTypes := #[87, 73] }) (by kernel_rfl) (Step.call 58 [.pointer (some ⟨b7, 0, none⟩), .agg (nums .i64 ([ 2,  7,  8,  13] : List Int)).toArray] (by kernel_rfl) (by kernel_rfl) [blk b7 87 (nums .u32 zs38)] [] [blk b41 73 (nums .i64 ([ 2,  7,  8,  13] : List Int)), blk b36 73 (nums .i64 ([ 1,  6,  11,  12] : List Int)), blk b31 73 (nums .i64 ([ 0,  5,  10,  15] : List Int)), blk b26 73 (nums .i64 ([ 3,  7,  11,  15] : List Int)), blk b21 73 (nums .i64 ([ 2,  6,  10,  14] : List Int)), blk b16 73 (nums .i64 ([ 1,  5,  9,  13] : List Int)), blk b11 73 (nums .i64 ([0,  4,  8,  12] : List Int)), blk b8 89 (nums .i64 ([0, 4, 8, 12, 1, 5, 9, 13, 2, 6, 10, 14, 3, 7, 11, 15, 0, 5, 10, 15, 1, 6, 11, 12, 2, 7, 8, 13, 3, 4, 9, 14] : List Int)), blk b6 87 (nums .u32 zs3), vw A (nums .u8 xs), vw A2 (nums .u8 ys)] (c_quarter_spec b7 zs38 2 7 8 13 (by first | rfl | assumption | omega | (simp only [List.length_append, List.length_cons, List.length_nil, List.length_set, List.length_replicate, List.length_take, List.length_drop]; omega) | (simp; done)) (by first | assumption | omega | (simp only [List.length_append, List.length_cons, List.length_nil, List.length_set, List.length_replicate, List.length_take, List.length_drop]; omega) | (simp only [fits] at *; omega) | (simp only [List.length_append, List.length_cons, List.length_nil, List.length_set, List.length_replicate, List.length_take, List.length_drop] at *; omega) | (simp; done) | decide) (by first | assumption | omega | (simp only [List.length_append, List.length_cons, List.length_nil, List.length_set, List.length_replicate, List.length_take, List.length_drop]; omega) | (simp only [fits] at *; omega) | (simp only [List.length_append, List.length_cons, List.length_nil, List.length_set, List.length_replicate, List.length_take, List.length_drop] at *; omega) | (simp; done) | decide) (by first | assumption | omega | (simp only [List.length_append, List.length_cons, List.length_nil, List.length_set, List.length_replicate, List.length_take, List.length_drop]; omega) | (simp only [fits] at *; omega) | (simp only [List.length_append, List.length_cons, List.length_nil, List.length_set, List.length_replicate, List.length_take, List.length_drop] at *; omega) | (simp; done) | decide) (by first | assumption | omega | (simp only [List.length_append, List.length_cons, List.length_nil, List.length_set, List.length_replicate, List.length_take, List.length_drop]; omega) | (simp only [fits] at *; omega) | (simp only [List.length_append, List.length_cons, List.length_nil, List.length_set, List.length_replicate, List.length_take, List.length_drop] at *; omega) | (simp; done) | decide)) [1] (by kernel_rfl) (Lend.nil _) ?_)
    rintro _ _ ⟨zs43, rfl, rfl, hp44, hp45⟩
    refine RunR.done (by kernel_rfl) ?_
    refine kblock_n ?_
    refine kseq_n ?_
    refine RunC.region ?_
    refine RunR.sil hU [0] 2 2 [6, 7, 8, 9, 11, 20, 22, 23, 24, 25, 26, 28] [(6, .slice none 0 0), (7, .pointer (some ⟨b6, 0, none⟩)), (8, .pointer (some ⟨b7, 0, none⟩)), (9, .pointer (some ⟨b8, 0, none⟩)), (11, .pointer (some ⟨b41, 0, none⟩)), (20, .int .i64 i), (22, .agg (nums .i64 ([0, 4, 8, 12, 1, 5, 9, 13, 2, 6, 10, 14, 3, 7, 11, 15, 0, 5, 10, 15, 1, 6, 11, 12, 2, 7, 8, 13, 3, 4, 9, 14] : List Int)).toArray), (23, .int .i64 7), (24, .bool true), (25, .agg (nums .i64 ([ 2,  7,  8,  13] : List Int)).toArray), (26, .agg (nums .i64 ([ 2,  7,  8,  13] : List Int)).toArray), (28, .int .i64 7)] ((-9223372036854775808 ≤ ((6 : Int) + 1) ∧ ((6 : Int) + 1) < 9223372036854775808) ∧ (True) ∧ True) rfl (by kernel_rfl) ⟨(by decide), trivial, trivial⟩ ?_
    refine RunR.done (by kernel_rfl) ?_
    refine kround_n ?_
    refine RunC.seq ?_
    refine RunC.region ?_
    refine RunR.sil hU [] 1 1 [6, 7, 8, 9, 11, 20, 22, 23, 24, 25, 26, 28] [(6, .slice none 0 0), (7, .pointer (some ⟨b6, 0, none⟩)), (8, .pointer (some ⟨b7, 0, none⟩)), (9, .pointer (some ⟨b8, 0, none⟩)), (11, .pointer (some ⟨b41, 0, none⟩)), (20, .int .i64 i), (22, .agg (nums .i64 ([0, 4, 8, 12, 1, 5, 9, 13, 2, 6, 10, 14, 3, 7, 11, 15, 0, 5, 10, 15, 1, 6, 11, 12, 2, 7, 8, 13, 3, 4, 9, 14] : List Int)).toArray), (23, .int .i64 7), (24, .bool true), (25, .agg (nums .i64 ([ 2,  7,  8,  13] : List Int)).toArray), (26, .agg (nums .i64 ([ 2,  7,  8,  13] : List Int)).toArray), (28, .int .i64 7)] ((True) ∧ True) rfl (by kernel_rfl) ⟨trivial, trivial⟩ ?_
    refine RunR.done (by kernel_rfl) ?_
    refine kseq_n ?_
    refine RunC.seq ?_
    refine RunC.cond (b := true) (by kernel_rfl) (fun _ => ?_) (fun h => by cases h)
    refine RunC.skip ?_
    refine kseq_n ?_
    refine RunC.seq ?_
    refine RunC.block ?_
    refine RunC.seq ?_
    refine RunC.region ?_
    refine RunR.sil hU [] 1 1 [6, 7, 8, 9, 11, 20, 22, 23, 24, 25, 26, 28] [(6, .slice none 0 0), (7, .pointer (some ⟨b6, 0, none⟩)), (8, .pointer (some ⟨b7, 0, none⟩)), (9, .pointer (some ⟨b8, 0, none⟩)), (11, .pointer (some ⟨b41, 0, none⟩)), (20, .int .i64 i), (22, .agg (nums .i64 ([0, 4, 8, 12, 1, 5, 9, 13, 2, 6, 10, 14, 3, 7, 11, 15, 0, 5, 10, 15, 1, 6, 11, 12, 2, 7, 8, 13, 3, 4, 9, 14] : List Int)).toArray), (23, .int .i64 7), (24, .bool true), (25, .agg (nums .i64 ([ 3,  4,  9,  14] : List Int)).toArray), (26, .agg (nums .i64 ([ 2,  7,  8,  13] : List Int)).toArray), (28, .int .i64 7)] ((0 ≤ (7 : Int) ∧ (7 : Int) < ((8 : Nat) : Int)) ∧ True) rfl (by kernel_rfl) ⟨(by decide), trivial⟩ ?_
    refine RunR.step (dst := some 11) (op := .alloc 73) (by kernel_rfl) (Step.alloc hU 4 32 (.agg #[.int .i64 0, .int .i64 0, .int .i64 0, .int .i64 0]) rfl (by kernel_rfl) (fun b46 => ?_))
    refine RunR.step (dst := none) (op := .store 73 (.tmp 11) (.tmp 25)) (by kernel_rfl) (Step.store_arr hU 0 b46 73 4 .i64 (List.replicate 4 (0 : Int)) ([ 3,  4,  9,  14] : List Int) (by kernel_rfl) (by kernel_rfl) (by kernel_rfl) (by kernel_rfl) (by first | rfl | omega | (simp; done)) (by first | rfl | omega | (simp; done)) ?_)
    have hl47 : (([ 3,  4,  9,  14] : List Int)).length = 4 := rfl
    refine RunR.done (by kernel_rfl) ?_
    refine kseq_n ?_
    refine RunC.region ?_
    refine RunR.step (dst := some 26) (op := .load 73 (.tmp 11)) (by kernel_rfl) (Step.load_arr hU 0 b46 73 4 .i64 ([ 3,  4,  9,  14] : List Int) (by kernel_rfl) (by kernel_rfl) (by kernel_rfl) (by kernel_rfl) (by first | rfl | omega | (simp; done)) (by kernel_rfl) ?_)
    refine RunR.step (dst := some 27) (op := .call { callee := .value (.func 58), args := #[.tmp 8, .tmp 26], argTypes := #[87, 73] }) (by kernel_rfl) (Step.call 58 [.pointer (some ⟨b7, 0, none⟩), .agg (nums .i64 ([ 3,  4,  9,  14] : List Int)).toArray] (by kernel_rfl) (by kernel_rfl) [blk b7 87 (nums .u32 zs43)] [] [blk b46 73 (nums .i64 ([ 3,  4,  9,  14] : List Int)), blk b41 73 (nums .i64 ([ 2,  7,  8,  13] : List Int)), blk b36 73 (nums .i64 ([ 1,  6,  11,  12] : List Int)), blk b31 73 (nums .i64 ([ 0,  5,  10,  15] : List Int)), blk b26 73 (nums .i64 ([ 3,  7,  11,  15] : List Int)), blk b21 73 (nums .i64 ([ 2,  6,  10,  14] : List Int)), blk b16 73 (nums .i64 ([ 1,  5,  9,  13] : List Int)), blk b11 73 (nums .i64 ([0,  4,  8,  12] : List Int)), blk b8 89 (nums .i64 ([0, 4, 8, 12, 1, 5, 9, 13, 2, 6, 10, 14, 3, 7, 11, 15, 0, 5, 10, 15, 1, 6, 11, 12, 2, 7, 8, 13, 3, 4, 9, 14] : List Int)), blk b6 87 (nums .u32 zs3), vw A (nums .u8 xs), vw A2 (nums .u8 ys)] (c_quarter_spec b7 zs43 3 4 9 14 (by first | rfl | assumption | omega | (simp only [List.length_append, List.length_cons, List.length_nil, List.length_set, List.length_replicate, List.length_take, List.length_drop]; omega) | (simp; done)) (by first | assumption | omega | (simp only [List.length_append, List.length_cons, List.length_nil, List.length_set, List.length_replicate, List.length_take, List.length_drop]; omega) | (simp only [fits] at *; omega) | (simp only [List.length_append, List.length_cons, List.length_nil, List.length_set, List.length_replicate, List.length_take, List.length_drop] at *; omega) | (simp; done) | decide) (by first | assumption | omega | (simp only [List.length_append, List.length_cons, List.length_nil, List.length_set, List.length_replicate, List.length_take, List.length_drop]; omega) | (simp only [fits] at *; omega) | (simp only [List.length_append, List.length_cons, List.length_nil, List.length_set, List.length_replicate, List.length_take, List.length_drop] at *; omega) | (simp; done) | decide) (by first | assumption | omega | (simp only [List.length_append, List.length_cons, List.length_nil, List.length_set, List.length_replicate, List.length_take, List.length_drop]; omega) | (simp only [fits] at *; omega) | (simp only [List.length_append, List.length_cons, List.length_nil, List.length_set, List.length_replicate, List.length_take, List.length_drop] at *; omega) | (simp; done) | decide) (by first | assumption | omega | (simp only [List.length_append, List.length_cons, List.length_nil, List.length_set, List.length_replicate, List.length_take, List.length_drop]; omega) | (simp only [fits] at *; omega) | (simp only [List.length_append, List.length_cons, List.length_nil, List.length_set, List.length_replicate, List.length_take, List.length_drop] at *; omega) | (simp; done) | decide)) [1] (by kernel_rfl) (Lend.nil _) ?_)
    rintro _ _ ⟨zs48, rfl, rfl, hp49, hp50⟩
    refine RunR.done (by kernel_rfl) ?_
    refine kblock_n ?_
    refine kseq_n ?_
    refine RunC.region ?_
    refine RunR.sil hU [0] 2 2 [6, 7, 8, 9, 11, 20, 22, 23, 24, 25, 26, 28] [(6, .slice none 0 0), (7, .pointer (some ⟨b6, 0, none⟩)), (8, .pointer (some ⟨b7, 0, none⟩)), (9, .pointer (some ⟨b8, 0, none⟩)), (11, .pointer (some ⟨b46, 0, none⟩)), (20, .int .i64 i), (22, .agg (nums .i64 ([0, 4, 8, 12, 1, 5, 9, 13, 2, 6, 10, 14, 3, 7, 11, 15, 0, 5, 10, 15, 1, 6, 11, 12, 2, 7, 8, 13, 3, 4, 9, 14] : List Int)).toArray), (23, .int .i64 8), (24, .bool true), (25, .agg (nums .i64 ([ 3,  4,  9,  14] : List Int)).toArray), (26, .agg (nums .i64 ([ 3,  4,  9,  14] : List Int)).toArray), (28, .int .i64 8)] ((-9223372036854775808 ≤ ((7 : Int) + 1) ∧ ((7 : Int) + 1) < 9223372036854775808) ∧ (True) ∧ True) rfl (by kernel_rfl) ⟨(by decide), trivial, trivial⟩ ?_
    refine RunR.done (by kernel_rfl) ?_
    refine kround_n ?_
    refine RunC.seq ?_
    refine RunC.region ?_
    refine RunR.sil hU [] 1 1 [6, 7, 8, 9, 11, 20, 22, 23, 24, 25, 26, 28] [(6, .slice none 0 0), (7, .pointer (some ⟨b6, 0, none⟩)), (8, .pointer (some ⟨b7, 0, none⟩)), (9, .pointer (some ⟨b8, 0, none⟩)), (11, .pointer (some ⟨b46, 0, none⟩)), (20, .int .i64 i), (22, .agg (nums .i64 ([0, 4, 8, 12, 1, 5, 9, 13, 2, 6, 10, 14, 3, 7, 11, 15, 0, 5, 10, 15, 1, 6, 11, 12, 2, 7, 8, 13, 3, 4, 9, 14] : List Int)).toArray), (23, .int .i64 8), (24, .bool false), (25, .agg (nums .i64 ([ 3,  4,  9,  14] : List Int)).toArray), (26, .agg (nums .i64 ([ 3,  4,  9,  14] : List Int)).toArray), (28, .int .i64 8)] ((True) ∧ True) rfl (by kernel_rfl) ⟨trivial, trivial⟩ ?_
    refine RunR.done (by kernel_rfl) ?_
    refine kseq_n ?_
    refine RunC.seq ?_
    refine RunC.cond (b := false) (by kernel_rfl) (fun h => by cases h) (fun _ => ?_)
    refine RunC.exit ?_
    refine kseq_e ?_
    refine kround_e ?_
    refine kblock_e ?_
    refine kblock_n ?_
    refine kseq_n ?_
    refine RunC.region ?_
    refine RunR.sil hU [0] 2 2 [6, 7, 8, 9, 20] [(6, .slice none 0 0), (7, .pointer (some ⟨b6, 0, none⟩)), (8, .pointer (some ⟨b7, 0, none⟩)), (9, .pointer (some ⟨b8, 0, none⟩)), (20, .int .i64 (i + 1))] ((-9223372036854775808 ≤ (i + 1) ∧ (i + 1) < 9223372036854775808) ∧ (True) ∧ True) rfl (by kernel_rfl) ⟨(by omega), trivial, trivial⟩ ?_
    refine RunR.done (by kernel_rfl) ?_
    refine kloop_n _ [6, 7, 8, 9, 20] [0, 8, 8, 8, 8] [(6, .slice none 0 0), (7, .pointer (some ⟨b6, 0, none⟩)), (8, .pointer (some ⟨b7, 0, none⟩)), (9, .pointer (some ⟨b8, 0, none⟩)), (20, .int .i64 (i + 1))] [blk b7 87 (nums .u32 zs48), blk b8 89 (nums .i64 ([0, 4, 8, 12, 1, 5, 9, 13, 2, 6, 10, 14, 3, 7, 11, 15, 0, 5, 10, 15, 1, 6, 11, 12, 2, 7, 8, 13, 3, 4, 9, 14] : List Int)), blk b6 87 (nums .u32 zs3), vw A (nums .u8 xs), vw A2 (nums .u8 ys)] (by kernel_rfl) (by kernel_rfl) ?_ ⟨(i + 1), zs48, (by first | assumption | omega | (simp only [List.length_append, List.length_cons, List.length_nil, List.length_set, List.length_replicate, List.length_take, List.length_drop]; omega) | (simp only [fits] at *; omega) | (simp only [List.length_append, List.length_cons, List.length_nil, List.length_set, List.length_replicate, List.length_take, List.length_drop] at *; omega) | (simp; done) | decide), (by first | assumption | omega | (simp only [List.length_append, List.length_cons, List.length_nil, List.length_set, List.length_replicate, List.length_take, List.length_drop]; omega) | (simp only [fits] at *; omega) | (simp only [List.length_append, List.length_cons, List.length_nil, List.length_set, List.length_replicate, List.length_take, List.length_drop] at *; omega) | (simp; done) | decide), (by rw [show (i + 1).toNat = i.toNat + 1 by omega, rounds, ← hv]; simp only [two, hp4, hp14, hp19, hp24, hp29, hp34, hp39, hp44, hp49]), (by assumption), rfl, (by rfl), (by rfl)⟩
    show ((10 - (i + 1)).toNat : Nat) < ((10 - i).toNat : Nat)
    omega
  · skip
    refine RunC.exit ?_
    refine kseq_e ?_
    refine kloop_e ?_
    refine kblock_e ?_
    refine kseq_n ?_
    refine RunC.seq ?_
    refine RunC.region ?_
    refine RunR.step (dst := some 30) (op := .makeSlice 22 (.const (.int .i64 0)) (.const (.int .i64 64))) (by kernel_rfl) (Step.make_room hU 5 1 .u8 .i64 .i64 0 64 rfl rfl (by kernel_rfl) (by kernel_rfl) (by omega) (by omega) (by kernel_rfl) (fun b51 => ?_))
    refine RunR.sil hU [] 1 2 [6, 7, 8, 12] [(6, .slice none 0 0), (7, .pointer (some ⟨b6, 0, none⟩)), (8, .pointer (some ⟨b7, 0, none⟩)), (12, .slice (some ⟨b51, 0, none⟩) 0 64)] ((True) ∧ True) rfl (by kernel_rfl) ⟨trivial, trivial⟩ ?_
    refine RunR.done (by kernel_rfl) ?_
    refine kseq_n ?_
    refine RunC.seq ?_
    refine RunC.seq ?_
    refine RunC.region ?_
    refine RunR.sil hU [] 1 1 [6, 7, 8, 12, 31] [(6, .slice none 0 0), (7, .pointer (some ⟨b6, 0, none⟩)), (8, .pointer (some ⟨b7, 0, none⟩)), (12, .slice (some ⟨b51, 0, none⟩) 0 64), (31, .int .i64 0)] ((True) ∧ True) rfl (by kernel_rfl) ⟨trivial, trivial⟩ ?_
    refine RunR.done (by kernel_rfl) ?_
    refine kseq_n ?_
    refine RunC.block ?_
    refine RunC.env [6, 7, 8, 12, 31] [(6, .slice none 0 0), (7, .pointer (some ⟨b6, 0, none⟩)), (8, .pointer (some ⟨b7, 0, none⟩)), (12, .slice (some ⟨b51, 0, none⟩) 0 64), (31, .int .i64 0)] (by kernel_rfl) ?_
    refine RunC.only [0, 0, 0, 0, 0, 0] [row 5 1 (.slice (some ⟨b51, 0, none⟩) 0 64) 0 (nums .u8 ([] : List Int)), blk b7 87 (nums .u32 vs), blk b8 89 (nums .i64 ([0, 4, 8, 12, 1, 5, 9, 13, 2, 6, 10, 14, 3, 7, 11, 15, 0, 5, 10, 15, 1, 6, 11, 12, 2, 7, 8, 13, 3, 4, 9, 14] : List Int)), blk b6 87 (nums .u32 zs3), vw A (nums .u8 xs), vw A2 (nums .u8 ys)] (by kernel_rfl) ?_
    refine RunC.loop (σ := Nat) (fun n_ t_ D_ => ∃ (j : Int) (os : List Int) (A3 : Option Addr) (c3 : Nat), (0 ≤ j) ∧ (j ≤ 16) ∧ (os = outs vs zs3 j.toNat) ∧ (os.length = 4 * j.toNat) ∧ (In .u8 os) ∧ (os.length ≤ c3) ∧ (0 < os.length → Option.isSome A3 = true) ∧ n_ = ((16 - j).toNat : Nat) ∧ t_ = [(6, .slice none 0 0), (7, .pointer (some ⟨b6, 0, none⟩)), (8, .pointer (some ⟨b7, 0, none⟩)), (12, .slice A3 os.length c3), (31, .int .i64 j)] ∧ D_ = [row 5 1 (.slice A3 os.length c3) os.length (nums .u8 os), blk b7 87 (nums .u32 vs), blk b8 89 (nums .i64 ([0, 4, 8, 12, 1, 5, 9, 13, 2, 6, 10, 14, 3, 7, 11, 15, 0, 5, 10, 15, 1, 6, 11, 12, 2, 7, 8, 13, 3, 4, 9, 14] : List Int)), blk b6 87 (nums .u32 zs3), vw A (nums .u8 xs), vw A2 (nums .u8 ys)]) id _ ⟨0, ([] : List Int), (some ⟨b51, 0, none⟩), 64, (by first | assumption | omega | (simp only [List.length_append, List.length_cons, List.length_nil, List.length_set, List.length_replicate, List.length_take, List.length_drop]; omega) | (simp only [fits] at *; omega) | (simp only [List.length_append, List.length_cons, List.length_nil, List.length_set, List.length_replicate, List.length_take, List.length_drop] at *; omega) | (simp; done) | decide), (by first | assumption | omega | (simp only [List.length_append, List.length_cons, List.length_nil, List.length_set, List.length_replicate, List.length_take, List.length_drop]; omega) | (simp only [fits] at *; omega) | (simp only [List.length_append, List.length_cons, List.length_nil, List.length_set, List.length_replicate, List.length_take, List.length_drop] at *; omega) | (simp; done) | decide), (by rfl), (by rfl), (by (repeat first | assumption | (simp only [fits]; omega) | with_reducible first | exact fits_wrap _ _ | exact fits_bits2 _ _ _ _ | exact In.nil _ | exact In.sb _ | exact In.replicate _ _ | apply In.append | apply In.cons | apply In.set | apply In.take | apply In.drop | apply In.rev)), (by first | assumption | omega | (simp only [List.length_append, List.length_cons, List.length_nil, List.length_set, List.length_replicate, List.length_take, List.length_drop]; omega) | (simp only [fits] at *; omega) | (simp only [List.length_append, List.length_cons, List.length_nil, List.length_set, List.length_replicate, List.length_take, List.length_drop] at *; omega) | (simp; done) | decide), (fun _ => rfl), rfl, rfl, rfl⟩ ?_
    rintro n_ _ _ ⟨j, os, A3, c3, hj, hj2, ho, hol, hoi, hoc, hA, rfl, rfl, rfl⟩
    refine RunC.seq ?_
    refine RunC.region ?_
    refine RunR.sil hU [] 1 1 [6, 7, 8, 12, 31, 32] [(6, .slice none 0 0), (7, .pointer (some ⟨b6, 0, none⟩)), (8, .pointer (some ⟨b7, 0, none⟩)), (12, .slice A3 os.length c3), (31, .int .i64 j), (32, .bool (decide (j < 16)))] ((True) ∧ True) rfl (by kernel_rfl) ⟨trivial, trivial⟩ ?_
    refine RunR.done (by kernel_rfl) ?_
    refine kseq_n ?_
    refine RunC.seq ?_
    refine RunC.condp (j < 16) (by kernel_rfl) (fun h52 => ?_) (fun h52 => ?_)
    · skip
      refine RunC.skip ?_
      refine kseq_n ?_
      refine RunC.seq ?_
      refine RunC.block ?_
      refine RunC.seq ?_
      refine RunC.region ?_
      refine RunR.sil hU [] 2 2 [6, 7, 8, 12, 13, 31] [(6, .slice none 0 0), (7, .pointer (some ⟨b6, 0, none⟩)), (8, .pointer (some ⟨b7, 0, none⟩)), (12, .slice A3 os.length c3), (13, .int .i64 j), (31, .int .i64 j)] ((True) ∧ (True) ∧ True) rfl (by kernel_rfl) ⟨trivial, trivial, trivial⟩ ?_
      refine RunR.done (by kernel_rfl) ?_
      refine kseq_n ?_
      refine RunC.regionU hU 11 [blk b7 87 (nums .u32 vs), blk b6 87 (nums .u32 zs3)] [1, 3] [10] #[false, false, false, false, false, false, false, false, false, false, false] (by kernel_rfl) (by kernel_rfl) (by kernel_rfl) ?_
      refine RunU.sil hU false 0 #[true, false, false, false, false, false, false, false, false, false, false] 34 (.slice A3 os.length c3) (True) (by kernel_rfl) trivial (by kernel_rfl) (by kernel_rfl) (fun _ _ _ h => h) ?_
      refine RunU.sil hU false 1 #[true, true, false, false, false, false, false, false, false, false, false] 35 (.int .i64 j) (True) (by kernel_rfl) trivial (by kernel_rfl) (by kernel_rfl) (fun _ _ _ h => h) ?_
      refine RunU.sil hU false 2 #[true, true, true, false, false, false, false, false, false, false, false] 36 (.pointer (some ⟨b7, 0 + (j).toNat * 1, none⟩)) (0 ≤ j ∧ j < ((16 : Nat) : Int)) (by kernel_rfl) (by omega) (by kernel_rfl) (by kernel_rfl) (fun _ _ _ h => h) ?_
      refine RunU.read 3 #[true, true, true, true, false, false, false, false, false, false, false] 37 (.load 23 (.tmp 36)) (.int .u32 (vs.getD ((j).toNat) 0)) [1, 3] (by kernel_rfl) (Reads.load_blknum hU 0 b7 (0 + (j).toNat * 1) 87 ((j).toNat) .u32 vs rfl (by kernel_rfl) (by kernel_rfl) (by omega) (by omega)) (by kernel_rfl) (by kernel_rfl) (by kernel_rfl) (by kernel_rfl) (fun _ _ _ h => h) ?_
      refine RunU.sil hU false 4 #[true, true, true, true, true, false, false, false, false, false, false] 38 (.int .i64 j) (True) (by kernel_rfl) trivial (by kernel_rfl) (by kernel_rfl) (fun _ _ _ h => h) ?_
      refine RunU.sil hU false 5 #[true, true, true, true, true, true, false, false, false, false, false] 39 (.pointer (some ⟨b6, 0 + (j).toNat * 1, none⟩)) (0 ≤ j ∧ j < ((16 : Nat) : Int)) (by kernel_rfl) (by omega) (by kernel_rfl) (by kernel_rfl) (fun _ _ _ h => h) ?_
      refine RunU.read 6 #[true, true, true, true, true, true, true, false, false, false, false] 40 (.load 23 (.tmp 39)) (.int .u32 (zs3.getD ((j).toNat) 0)) [1, 3] (by kernel_rfl) (Reads.load_blknum hU 1 b6 (0 + (j).toNat * 1) 87 ((j).toNat) .u32 zs3 rfl (by kernel_rfl) (by kernel_rfl) (by omega) (by omega)) (by kernel_rfl) (by kernel_rfl) (by kernel_rfl) (by kernel_rfl) (fun _ _ _ h => h) ?_
      refine RunU.sil hU false 7 #[true, true, true, true, true, true, true, true, false, false, false] 41 (.int .u32 (IntKind.wrap .u32 ((vs.getD ((j).toNat) 0) + (zs3.getD ((j).toNat) 0)))) (True) (by kernel_rfl) trivial (by kernel_rfl) (by kernel_rfl) (fun _ _ _ h => h) ?_
      refine RunU.one (dst := some 42) (op := .call { callee := .value (.func 59), args := #[.tmp 41], argTypes := #[23] }) 8 #[true, true, true, true, true, true, true, true, true, false, false] [2, 4] (by kernel_rfl) (by kernel_rfl) (Step.call 59 [.int .u32 (IntKind.wrap .u32 ((vs.getD ((j).toNat) 0) + (zs3.getD ((j).toNat) 0)))] (by kernel_rfl) (by kernel_rfl) [] [] [row 5 1 (.slice A3 os.length c3) os.length (nums .u8 os), blk b7 87 (nums .u32 vs), blk b8 89 (nums .i64 ([0, 4, 8, 12, 1, 5, 9, 13, 2, 6, 10, 14, 3, 7, 11, 15, 0, 5, 10, 15, 1, 6, 11, 12, 2, 7, 8, 13, 3, 4, 9, 14] : List Int)), blk b6 87 (nums .u32 zs3), vw A (nums .u8 xs), vw A2 (nums .u8 ys)] (w_Put32_spec (IntKind.wrap .u32 ((vs.getD ((j).toNat) 0) + (zs3.getD ((j).toNat) 0))) (by first | assumption | exact fits_wrap _ _ | exact fits_bits2 _ _ _ _ | (refine ⟨?_, ?_⟩ <;> omega))) [] (by kernel_rfl) (Lend.nil _) ?_)
      rintro _ _ ⟨A53, c54, zs55, rfl, rfl, hp56, hp57, hp58, hp59, hp60⟩
      refine ⟨.inl (by kernel_rfl), ?_⟩
      refine RunU.one (dst := some 43) (op := .call { callee := .builtin .append, args := #[.tmp 34, .tmp 42], argTypes := #[22, 22] }) 9 #[true, true, true, true, true, true, true, true, true, true, false] [2, 4] (by kernel_rfl) (by kernel_rfl) (Step.append_nums hU 5 1 (.int .u8 0) .u8 1 0 A3 os.length c3 os A53 zs55.length c54 (row 5 1 (.slice A53 zs55.length c54) zs55.length (nums .u8 zs55)) zs55 rfl rfl rfl (by kernel_rfl) (by kernel_rfl) (by kernel_rfl) (by kernel_rfl) (tells_row _ _ _ _ _ _) (by first | rfl | omega | (simp; omega)) (by first | rfl | omega | (simp; omega)) (by omega) (by omega) (by kernel_rfl) (fun A61 c62 hc63 hA64 => ?_))
      have hl65 : (os ++ zs55).length = os.length + zs55.length := List.length_append
      refine ⟨.inl (by kernel_rfl), ?_⟩
      refine RunU.sil hU false 10 #[true, true, true, true, true, true, true, true, true, true, true] 12 (.slice A61 ((os ++ zs55).length) c62) (True) (by kernel_rfl) trivial (by kernel_rfl) (by kernel_rfl) (fun _ _ _ h => h) ?_
      refine RunU.env [6, 7, 8, 12, 31] [(6, .slice none 0 0), (7, .pointer (some ⟨b6, 0, none⟩)), (8, .pointer (some ⟨b7, 0, none⟩)), (12, .slice A61 ((os ++ zs55).length) c62), (31, .int .i64 j)] (by kernel_rfl) ?_
      refine RunU.done (by kernel_rfl) ?_
      refine kblock_n ?_
      refine kseq_n ?_
      refine RunC.region ?_
      refine RunR.sil hU [0] 2 2 [6, 7, 8, 12, 31] [(6, .slice none 0 0), (7, .pointer (some ⟨b6, 0, none⟩)), (8, .pointer (some ⟨b7, 0, none⟩)), (12, .slice A61 ((os ++ zs55).length) c62), (31, .int .i64 (j + 1))] ((-9223372036854775808 ≤ (j + 1) ∧ (j + 1) < 9223372036854775808) ∧ (True) ∧ True) rfl (by kernel_rfl) ⟨(by omega), trivial, trivial⟩ ?_
      refine RunR.done (by kernel_rfl) ?_
      refine kloop_n _ [6, 7, 8, 12, 31] [0, 1, 1, 1, 1, 1] [(6, .slice none 0 0), (7, .pointer (some ⟨b6, 0, none⟩)), (8, .pointer (some ⟨b7, 0, none⟩)), (12, .slice A61 ((os ++ zs55).length) c62), (31, .int .i64 (j + 1))] [row 5 1 (.slice A61 ((os ++ zs55).length) c62) ((os ++ zs55).length) (nums .u8 (os ++ zs55)), blk b7 87 (nums .u32 vs), blk b8 89 (nums .i64 ([0, 4, 8, 12, 1, 5, 9, 13, 2, 6, 10, 14, 3, 7, 11, 15, 0, 5, 10, 15, 1, 6, 11, 12, 2, 7, 8, 13, 3, 4, 9, 14] : List Int)), blk b6 87 (nums .u32 zs3), vw A (nums .u8 xs), vw A2 (nums .u8 ys)] (by kernel_rfl) (by kernel_rfl) ?_ ⟨(j + 1), (os ++ zs55), A61, c62, (by first | assumption | omega | (simp only [List.length_append, List.length_cons, List.length_nil, List.length_set, List.length_replicate, List.length_take, List.length_drop]; omega) | (simp only [fits] at *; omega) | (simp only [List.length_append, List.length_cons, List.length_nil, List.length_set, List.length_replicate, List.length_take, List.length_drop] at *; omega) | (simp; done) | decide), (by first | assumption | omega | (simp only [List.length_append, List.length_cons, List.length_nil, List.length_set, List.length_replicate, List.length_take, List.length_drop]; omega) | (simp only [fits] at *; omega) | (simp only [List.length_append, List.length_cons, List.length_nil, List.length_set, List.length_replicate, List.length_take, List.length_drop] at *; omega) | (simp; done) | decide), (by rw [show (j + 1).toNat = j.toNat + 1 by omega, outs, ← ho]; simp only [hp4, hp56]; rfl), (by first | rfl | assumption | omega | (simp only [List.length_append, List.length_cons, List.length_nil, List.length_set, List.length_replicate, List.length_take, List.length_drop]; omega) | (simp; done)), (by (repeat first | assumption | (simp only [fits]; omega) | with_reducible first | exact fits_wrap _ _ | exact fits_bits2 _ _ _ _ | exact In.nil _ | exact In.sb _ | exact In.replicate _ _ | apply In.append | apply In.cons | apply In.set | apply In.take | apply In.drop | apply In.rev)), (by first | assumption | omega | (simp only [List.length_append, List.length_cons, List.length_nil, List.length_set, List.length_replicate, List.length_take, List.length_drop]; omega) | (simp only [fits] at *; omega) | (simp only [List.length_append, List.length_cons, List.length_nil, List.length_set, List.length_replicate, List.length_take, List.length_drop] at *; omega) | (simp; done) | decide), (fun h => hA64 (by first | exact h | (simp at h ⊢; omega))), rfl, (by rfl), (by rfl)⟩
      show ((16 - (j + 1)).toNat : Nat) < ((16 - j).toNat : Nat)
      omega
    · skip
      refine RunC.exit ?_
      refine kseq_e ?_
      refine kloop_e ?_
      refine kblock_e ?_
      refine kseq_n ?_
      refine RunC.seq ?_
      refine RunC.region ?_
      refine RunR.sil hU [] 2 2 [6] [(6, .slice A3 os.length c3)] ((True) ∧ (True) ∧ True) rfl (by kernel_rfl) ⟨trivial, trivial, trivial⟩ ?_
      refine RunR.done (by kernel_rfl) ?_
      refine kseq_n ?_
      refine RunC.ret ?_
      refine kret_r [.slice A3 os.length c3] [0] [row 5 1 (.slice A3 os.length c3) os.length (nums .u8 os)] ⟨rfl, trivial⟩ (by kernel_rfl) rfl ⟨A3, c3, os, rfl, rfl, (by rw [ho, hv, show j = 16 by omega, show i = 10 by omega]; simp only [hp4]; rfl), (by first | rfl | assumption | omega | (simp only [List.length_append, List.length_cons, List.length_nil, List.length_set, List.length_replicate, List.length_take, List.length_drop]; omega) | (simp; done)), hoi, (by first | assumption | omega | (simp only [List.length_append, List.length_cons, List.length_nil, List.length_set, List.length_replicate, List.length_take, List.length_drop]; omega) | (simp only [fits] at *; omega) | (simp only [List.length_append, List.length_cons, List.length_nil, List.length_set, List.length_replicate, List.length_take, List.length_drop] at *; omega) | (simp; done) | decide), (fun h => hA (by first | exact h | (simp at h ⊢; omega)))⟩
end Go.Proofs.Ytoaoabnhkiijpaa.V3
