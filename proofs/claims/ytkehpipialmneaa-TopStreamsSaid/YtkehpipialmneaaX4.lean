/- What these functions compute: a contract for each, walked through its code. -/
import Derived.Test.YtkehpipialmneaaSLzn
import Derived.Test.YtkehpipialmneaaBPure
import Derived.Test.YtkehpipialmneaaProg
import Derived.Test.YtkehpipialmneaaX1
import Derived.Test.YtkehpipialmneaaX2
import Derived.Test.YtkehpipialmneaaX3
namespace Go.Proofs.Ytkehpipialmneaa.X4
open Go Go.Proofs.Ytkehpipialmneaa.SL Go.Proofs.Ytkehpipialmneaa.SL.W Go.Proofs.Ytkehpipialmneaa.SL.C Go.Proofs.Ytkehpipialmneaa.SL.H Go.Proofs.Ytkehpipialmneaa.SL.M Go.Proofs.Ytkehpipialmneaa.SL.Y Go.Proofs.Ytkehpipialmneaa.SL.A Go.Proofs.Ytkehpipialmneaa.SL.B Go.Proofs.Ytkehpipialmneaa.X1 Go.Proofs.Ytkehpipialmneaa.X2 Go.Proofs.Ytkehpipialmneaa.X3
set_option linter.unusedVariables false
set_option linter.unusedSimpArgs false
set_option maxRecDepth 100000
set_option maxHeartbeats 40000000
def U : Tab where
  und := [(3, .int .i64), (5, .int .u8), (24, .slice 5), (53, .int .u32), (104, .array 16 53), (105, .array 16 53), (107, .array 4 3), (108, .array 8 107)]
  fld := []
  sz := [(3, 1), (5, 1), (24, 1), (53, 1), (104, 16), (105, 16), (107, 4), (108, 32)]
  ti := [(3, (1, 8, .int .i64 0)), (5, (1, 1, .int .u8 0)), (24, (1, 24, .slice none 0 0)), (53, (1, 4, .int .u32 0)), (104, (16, 64, .agg #[.int .u32 0, .int .u32 0, .int .u32 0, .int .u32 0, .int .u32 0, .int .u32 0, .int .u32 0, .int .u32 0, .int .u32 0, .int .u32 0, .int .u32 0, .int .u32 0, .int .u32 0, .int .u32 0, .int .u32 0, .int .u32 0])), (105, (16, 64, .agg #[.int .u32 0, .int .u32 0, .int .u32 0, .int .u32 0, .int .u32 0, .int .u32 0, .int .u32 0, .int .u32 0, .int .u32 0, .int .u32 0, .int .u32 0, .int .u32 0, .int .u32 0, .int .u32 0, .int .u32 0, .int .u32 0])), (107, (4, 32, .agg #[.int .i64 0, .int .i64 0, .int .i64 0, .int .i64 0])), (108, (32, 256, z32))]
  bld := []

theorem hU : U.OK Try.prog where
  und := by
    intro p hp
    simp only [U, List.mem_cons, List.not_mem_nil, or_false] at hp
    rcases hp with rfl | rfl | rfl | rfl | rfl | rfl | rfl | rfl
    · exact Try.underlying3
    · exact Try.underlying5
    · exact Try.underlying24
    · exact Try.underlying53
    · exact Try.underlying104
    · exact Try.underlying105
    · exact Try.underlying107
    · exact Try.underlying108
  fld := by
    intro p hp; cases hp
  sz := by
    intro p hp
    simp only [U, List.mem_cons, List.not_mem_nil, or_false] at hp
    rcases hp with rfl | rfl | rfl | rfl | rfl | rfl | rfl | rfl
    · exact ⟨Try.prog.types[3]!, by kernel_rfl, by kernel_rfl⟩
    · exact ⟨Try.prog.types[5]!, by kernel_rfl, by kernel_rfl⟩
    · exact ⟨Try.prog.types[24]!, by kernel_rfl, by kernel_rfl⟩
    · exact ⟨Try.prog.types[53]!, by kernel_rfl, by kernel_rfl⟩
    · exact ⟨Try.prog.types[104]!, by kernel_rfl, by kernel_rfl⟩
    · exact ⟨Try.prog.types[105]!, by kernel_rfl, by kernel_rfl⟩
    · exact ⟨Try.prog.types[107]!, by kernel_rfl, by kernel_rfl⟩
    · exact ⟨Try.prog.types[108]!, by kernel_rfl, by kernel_rfl⟩
  ti := by
    intro p hp
    simp only [U, List.mem_cons, List.not_mem_nil, or_false] at hp
    rcases hp with rfl | rfl | rfl | rfl | rfl | rfl | rfl | rfl
    · exact ⟨Try.prog.types[3]!, by kernel_rfl, by kernel_rfl, by kernel_rfl, by kernel_rfl⟩
    · exact ⟨Try.prog.types[5]!, by kernel_rfl, by kernel_rfl, by kernel_rfl, by kernel_rfl⟩
    · exact ⟨Try.prog.types[24]!, by kernel_rfl, by kernel_rfl, by kernel_rfl, by kernel_rfl⟩
    · exact ⟨Try.prog.types[53]!, by kernel_rfl, by kernel_rfl, by kernel_rfl, by kernel_rfl⟩
    · exact ⟨Try.prog.types[104]!, by kernel_rfl, by kernel_rfl, by kernel_rfl, by kernel_rfl⟩
    · exact ⟨Try.prog.types[105]!, by kernel_rfl, by kernel_rfl, by kernel_rfl, by kernel_rfl⟩
    · exact ⟨Try.prog.types[107]!, by kernel_rfl, by kernel_rfl, by kernel_rfl, by kernel_rfl⟩
    · exact ⟨Try.prog.types[108]!, by kernel_rfl, by kernel_rfl, by kernel_rfl, by kernel_rfl⟩
  bld := by
    intro p hp; cases hp
  mixed := by kernel_rfl

theorem c_block_spec (A : Option Addr) (c : Nat) (xs : List Int) (A2 : Option Addr) (c2 : Nat) (ys : List Int) (n : Int) (l_xs : Nat) (l_ys : Nat) (hx : In .u8 xs) (hy : In .u8 ys) (hxl : xs.length = 32) (hyl : ys.length = 12) (hn : fits .u32 n) (hcx : xs.length ≤ c) (hcy : ys.length ≤ c2) (hl_xs : xs.length = l_xs) (hl_ys : ys.length = l_ys) :
    CallsS Try.prog 42 [.slice A l_xs c, .slice A2 l_ys c2, .int .u32 n] [vw A (nums .u8 xs), vw A2 (nums .u8 ys)] (fun r D => ∃ (A3 : Option Addr) (c3 : Nat) (zs : List Int), r = .slice A3 zs.length c3 ∧ D = [row 5 1 (.slice A3 zs.length c3) zs.length (nums .u8 zs)] ∧ (zs = block xs ys n) ∧ (zs.length = 64) ∧ (In .u8 zs) ∧ (zs.length ≤ c3) ∧ (0 < zs.length → Option.isSome A3 = true)) := by
  subst hl_xs
  subst hl_ys
  refine CallsS.enter hU Try.f42 _ [.tmp 6] 46 Try.func42 rfl (by decide) rfl rfl (by kernel_rfl) fun w0 W => ?_
  refine RunC.know (p := 0 < xs.length → Option.isSome A = true) (fun _ _ w hs => vw_some hs 0 rfl (by first | (simp [nums_length]; done) | exact dosV_len _ | exact bls_len _ | exact chV_len _)) (fun hA1 => ?_)
  refine RunC.know (p := 0 < ys.length → Option.isSome A2 = true) (fun _ _ w hs => vw_some hs 1 rfl (by first | (simp [nums_length]; done) | exact dosV_len _ | exact bls_len _ | exact chV_len _)) (fun hA2 => ?_)
  refine RunC.sr ?_
  refine RunR.sl hU [] 1 1 [0, 1, 2, 6] [(0, .slice A xs.length c), (1, .slice A2 ys.length c2), (2, .int .u32 n), (6, .slice none 0 0)] 1 ?_
  refine RunR.nx ?_
  refine RunR.sl hU [] 3 3 [6, 14, 15, 16] [(6, .slice none 0 0), (14, .slice A xs.length c), (15, .slice A2 ys.length c2), (16, .int .u32 n)] 3 ?_
  refine RunR.st (some 17) (.call { callee := .value (.func 60), args := #[.tmp 14, .tmp 15, .tmp 16], argTypes := #[24, 24, 53] }) (Step.cl 60 [.slice A xs.length c, .slice A2 ys.length c2, .int .u32 n] [] [vw A (nums .u8 xs), vw A2 (nums .u8 ys)] [vw A (nums .u8 xs), vw A2 (nums .u8 ys)] (c_begin_spec A c xs A2 c2 ys n xs.length ys.length hx hy (by first | rfl | assumption | omega | (simp only [List.length_append, List.length_cons, List.length_nil, List.length_set, List.length_replicate, List.length_take, List.length_drop]; omega) | (simp; done)) (by first | rfl | assumption | omega | (simp only [List.length_append, List.length_cons, List.length_nil, List.length_set, List.length_replicate, List.length_take, List.length_drop]; omega) | (simp; done)) (by first | assumption | exact fits_wrap _ _ | exact fits_bits2 _ _ _ _ | (refine ⟨?_, ?_⟩ <;> omega)) (by first | assumption | omega | (simp only [List.length_append, List.length_cons, List.length_nil, List.length_set, List.length_replicate, List.length_take, List.length_drop]; omega) | (simp only [fits] at *; omega) | (simp only [List.length_append, List.length_cons, List.length_nil, List.length_set, List.length_replicate, List.length_take, List.length_drop] at *; omega) | (simp; done) | decide) (by first | assumption | omega | (simp only [List.length_append, List.length_cons, List.length_nil, List.length_set, List.length_replicate, List.length_take, List.length_drop]; omega) | (simp only [fits] at *; omega) | (simp only [List.length_append, List.length_cons, List.length_nil, List.length_set, List.length_replicate, List.length_take, List.length_drop] at *; omega) | (simp; done) | decide) (by first | rfl | assumption | omega | (simp only [List.length_append, List.length_cons, List.length_nil, List.length_set, List.length_replicate, List.length_take, List.length_drop]; omega) | (simp; done)) (by first | rfl | assumption | omega | (simp only [List.length_append, List.length_cons, List.length_nil, List.length_set, List.length_replicate, List.length_take, List.length_drop]; omega) | (simp; done))) [] (((Lend.nil _).tells 1 (vw A2 (nums .u8 ys)) A2 (nums .u8 ys) (by kernel_rfl) (tells_vw _ _)).tells 0 (vw A (nums .u8 xs)) A (nums .u8 xs) (by kernel_rfl) (tells_vw _ _)) ?_)
  rintro _ _ ⟨zs3, rfl, rfl, hp4, hp5⟩
  refine RunR.st (some 7) (.alloc 105) (Step.al hU 16 64 (.agg #[.int .u32 0, .int .u32 0, .int .u32 0, .int .u32 0, .int .u32 0, .int .u32 0, .int .u32 0, .int .u32 0, .int .u32 0, .int .u32 0, .int .u32 0, .int .u32 0, .int .u32 0, .int .u32 0, .int .u32 0, .int .u32 0]) (fun b6 => ?_))
  have hl7 : (List.replicate 16 (0 : Int)).length = 16 := List.length_replicate
  refine RunR.st none (.store 105 (.tmp 7) (.tmp 17)) (Step.store_arr hU 0 b6 105 16 .u32 (List.replicate 16 (0 : Int)) zs3 (by kernel_rfl) (by kernel_rfl) (by kernel_rfl) (by kernel_rfl) (by first | rfl | omega | (simp; done)) (by first | rfl | omega | (simp; done)) ?_)
  refine RunR.nx ?_
  refine RunR.st (some 18) (.load 105 (.tmp 7)) (Step.load_arr hU 0 b6 105 16 .u32 zs3 (by kernel_rfl) (by kernel_rfl) (by kernel_rfl) (by kernel_rfl) (by first | rfl | omega | (simp; done)) (by kernel_rfl) ?_)
  refine RunR.st (some 8) (.alloc 105) (Step.al hU 16 64 (.agg #[.int .u32 0, .int .u32 0, .int .u32 0, .int .u32 0, .int .u32 0, .int .u32 0, .int .u32 0, .int .u32 0, .int .u32 0, .int .u32 0, .int .u32 0, .int .u32 0, .int .u32 0, .int .u32 0, .int .u32 0, .int .u32 0]) (fun b8 => ?_))
  have hl9 : (List.replicate 16 (0 : Int)).length = 16 := List.length_replicate
  refine RunR.st none (.store 105 (.tmp 8) (.tmp 18)) (Step.store_arr hU 0 b8 105 16 .u32 (List.replicate 16 (0 : Int)) zs3 (by kernel_rfl) (by kernel_rfl) (by kernel_rfl) (by kernel_rfl) (by first | rfl | omega | (simp; done)) (by first | rfl | omega | (simp; done)) ?_)
  refine RunR.nx ?_
  refine RunR.st (some 19) (.call { callee := .value (.func 61), args := #[], argTypes := #[] }) (Step.cn 61 [] [] [blk b8 105 (nums .u32 zs3), blk b6 105 (nums .u32 zs3), vw A (nums .u8 xs), vw A2 (nums .u8 ys)] (c_quarters_spec) [] ?_)
  rintro _ _ ⟨rfl, rfl⟩
  refine RunR.st (some 9) (.alloc 108) (Step.al hU 32 256 z32 (fun b10 => ?_))
  have hl11 : (List.replicate 32 (0 : Int)).length = 32 := List.length_replicate
  refine RunR.st none (.store 108 (.tmp 9) (.tmp 19)) (Step.store_arr hU 0 b10 108 32 .i64 (List.replicate 32 (0 : Int)) ([0, 4, 8, 12, 1, 5, 9, 13, 2, 6, 10, 14, 3, 7, 11, 15, 0, 5, 10, 15, 1, 6, 11, 12, 2, 7, 8, 13, 3, 4, 9, 14] : List Int) (by kernel_rfl) (by kernel_rfl) (by kernel_rfl) (by kernel_rfl) (by first | rfl | omega | (simp; done)) (by first | rfl | omega | (simp; done)) ?_)
  have hl12 : (([0, 4, 8, 12, 1, 5, 9, 13, 2, 6, 10, 14, 3, 7, 11, 15, 0, 5, 10, 15, 1, 6, 11, 12, 2, 7, 8, 13, 3, 4, 9, 14] : List Int)).length = 32 := rfl
  refine RunR.nn ?_
  refine RunC.seq ?_
  refine RunC.sr ?_
  refine RunR.sl hU [] 1 1 [6, 7, 8, 9, 20] [(6, .slice none 0 0), (7, pt b6), (8, pt b8), (9, pt b10), (20, .int .i64 0)] 1 ?_
  refine RunR.nn ?_
  refine RunC.block ?_
  refine RunC.env [6, 7, 8, 9, 20] [(6, .slice none 0 0), (7, pt b6), (8, pt b8), (9, pt b10), (20, .int .i64 0)] (by kernel_rfl) ?_
  refine RunC.only [1, 0, 0, 0, 0] [blk b8 105 (nums .u32 zs3), blk b10 108 (nums .i64 ([0, 4, 8, 12, 1, 5, 9, 13, 2, 6, 10, 14, 3, 7, 11, 15, 0, 5, 10, 15, 1, 6, 11, 12, 2, 7, 8, 13, 3, 4, 9, 14] : List Int)), blk b6 105 (nums .u32 zs3), vw A (nums .u8 xs), vw A2 (nums .u8 ys)] (by kernel_rfl) ?_
  refine RunC.loop (σ := Nat) (fun n_ t_ D_ => ∃ (i : Int) (vs : List Int), (0 ≤ i) ∧ (i ≤ 10) ∧ (vs = rounds zs3 i.toNat) ∧ (vs.length = 16) ∧ n_ = ((10 - i).toNat : Nat) ∧ t_ = [(6, .slice none 0 0), (7, pt b6), (8, pt b8), (9, pt b10), (20, .int .i64 i)] ∧ D_ = [blk b8 105 (nums .u32 vs), blk b10 108 (nums .i64 ([0, 4, 8, 12, 1, 5, 9, 13, 2, 6, 10, 14, 3, 7, 11, 15, 0, 5, 10, 15, 1, 6, 11, 12, 2, 7, 8, 13, 3, 4, 9, 14] : List Int)), blk b6 105 (nums .u32 zs3), vw A (nums .u8 xs), vw A2 (nums .u8 ys)]) id _ ⟨0, zs3, (by first | assumption | omega | (simp only [List.length_append, List.length_cons, List.length_nil, List.length_set, List.length_replicate, List.length_take, List.length_drop]; omega) | (simp only [fits] at *; omega) | (simp only [List.length_append, List.length_cons, List.length_nil, List.length_set, List.length_replicate, List.length_take, List.length_drop] at *; omega) | (simp; done) | decide), (by first | assumption | omega | (simp only [List.length_append, List.length_cons, List.length_nil, List.length_set, List.length_replicate, List.length_take, List.length_drop]; omega) | (simp only [fits] at *; omega) | (simp only [List.length_append, List.length_cons, List.length_nil, List.length_set, List.length_replicate, List.length_take, List.length_drop] at *; omega) | (simp; done) | decide), (by rfl), (by first | rfl | assumption | omega | (simp only [List.length_append, List.length_cons, List.length_nil, List.length_set, List.length_replicate, List.length_take, List.length_drop]; omega) | (simp; done)), rfl, rfl, rfl⟩ ?_
  rintro n_ _ _ ⟨i, vs, hi, hi2, hv, hvl, rfl, rfl, rfl⟩
  refine RunC.sr ?_
  refine RunR.sl hU [] 1 1 [6, 7, 8, 9, 20, 21] [(6, .slice none 0 0), (7, pt b6), (8, pt b8), (9, pt b10), (20, .int .i64 i), (21, .bool (decide (i < 10)))] 1 ?_
  refine RunR.nn ?_
  refine RunC.seq ?_
  refine RunC.condp (i < 10) (by kernel_rfl) (fun h13 => ?_) (fun h13 => ?_)
  · skip
    refine RunC.ks ?_
    refine RunC.seq ?_
    refine RunC.block ?_
    refine RunC.sr ?_
    refine RunR.st (some 22) (.load 108 (.tmp 9)) (Step.load_arr hU 1 b10 108 32 .i64 ([0, 4, 8, 12, 1, 5, 9, 13, 2, 6, 10, 14, 3, 7, 11, 15, 0, 5, 10, 15, 1, 6, 11, 12, 2, 7, 8, 13, 3, 4, 9, 14] : List Int) (by kernel_rfl) (by kernel_rfl) (by kernel_rfl) (by kernel_rfl) (by first | rfl | omega | (simp; done)) (by kernel_rfl) ?_)
    refine RunR.sl hU [] 1 2 [6, 7, 8, 9, 20, 22, 23] [(6, .slice none 0 0), (7, pt b6), (8, pt b8), (9, pt b10), (20, .int .i64 i), (22, .agg (nums .i64 ([0, 4, 8, 12, 1, 5, 9, 13, 2, 6, 10, 14, 3, 7, 11, 15, 0, 5, 10, 15, 1, 6, 11, 12, 2, 7, 8, 13, 3, 4, 9, 14] : List Int)).toArray), (23, .int .i64 0)] 1 ?_
    refine RunR.nn ?_
    refine RunC.block ?_
    refine RunC.unroll 8 ?_
    refine RunC.sr ?_
    refine RunR.sl hU [] 1 1 [6, 7, 8, 9, 20, 22, 23, 24] [(6, .slice none 0 0), (7, pt b6), (8, pt b8), (9, pt b10), (20, .int .i64 i), (22, .agg (nums .i64 ([0, 4, 8, 12, 1, 5, 9, 13, 2, 6, 10, 14, 3, 7, 11, 15, 0, 5, 10, 15, 1, 6, 11, 12, 2, 7, 8, 13, 3, 4, 9, 14] : List Int)).toArray), (23, .int .i64 0), (24, .bool true)] 1 ?_
    refine RunR.nn ?_
    refine RunC.seq ?_
    refine RunC.cond (b := true) (by kernel_rfl) (fun _ => ?_) (fun h => by cases h)
    refine RunC.ks ?_
    refine RunC.seq ?_
    refine RunC.block ?_
    refine RunC.sr ?_
    refine RunR.sil hU [] 1 1 [6, 7, 8, 9, 20, 22, 23, 25] [(6, .slice none 0 0), (7, pt b6), (8, pt b8), (9, pt b10), (20, .int .i64 i), (22, .agg (nums .i64 ([0, 4, 8, 12, 1, 5, 9, 13, 2, 6, 10, 14, 3, 7, 11, 15, 0, 5, 10, 15, 1, 6, 11, 12, 2, 7, 8, 13, 3, 4, 9, 14] : List Int)).toArray), (23, .int .i64 0), (25, .agg (nums .i64 ([0,  4,  8,  12] : List Int)).toArray)] ((0 ≤ (0 : Int) ∧ (0 : Int) < ((8 : Nat) : Int)) ∧ True) rfl (by kernel_rfl) ⟨(by first | decide | (refine ⟨by decide, ?_⟩; simp only [List.size_toArray, nums_length, List.length_cons, List.length_nil]; decide)), trivial⟩ ?_
    refine RunR.st (some 11) (.alloc 107) (Step.al hU 4 32 (.agg #[.int .i64 0, .int .i64 0, .int .i64 0, .int .i64 0]) (fun b14 => ?_))
    have hl15 : (List.replicate 4 (0 : Int)).length = 4 := List.length_replicate
    refine RunR.st none (.store 107 (.tmp 11) (.tmp 25)) (Step.store_arr hU 0 b14 107 4 .i64 (List.replicate 4 (0 : Int)) ([0,  4,  8,  12] : List Int) (by kernel_rfl) (by kernel_rfl) (by kernel_rfl) (by kernel_rfl) (by first | rfl | omega | (simp; done)) (by first | rfl | omega | (simp; done)) ?_)
    have hl16 : (([0,  4,  8,  12] : List Int)).length = 4 := rfl
    refine RunR.nn ?_
    refine RunC.region ?_
    refine RunR.st (some 26) (.load 107 (.tmp 11)) (Step.load_arr hU 0 b14 107 4 .i64 ([0,  4,  8,  12] : List Int) (by kernel_rfl) (by kernel_rfl) (by kernel_rfl) (by kernel_rfl) (by first | rfl | omega | (simp; done)) (by kernel_rfl) ?_)
    refine RunR.st (some 27) (.call { callee := .value (.func 62), args := #[.tmp 8, .tmp 26], argTypes := #[105, 107] }) (Step.cn 62 [pt b8, .agg (nums .i64 ([0,  4,  8,  12] : List Int)).toArray] [blk b8 105 (nums .u32 vs)] [blk b14 107 (nums .i64 ([0,  4,  8,  12] : List Int)), blk b10 108 (nums .i64 ([0, 4, 8, 12, 1, 5, 9, 13, 2, 6, 10, 14, 3, 7, 11, 15, 0, 5, 10, 15, 1, 6, 11, 12, 2, 7, 8, 13, 3, 4, 9, 14] : List Int)), blk b6 105 (nums .u32 zs3), vw A (nums .u8 xs), vw A2 (nums .u8 ys)] (c_quarter_spec b8 vs 0 4 8 12 (by first | rfl | assumption | omega | (simp only [List.length_append, List.length_cons, List.length_nil, List.length_set, List.length_replicate, List.length_take, List.length_drop]; omega) | (simp; done)) (by first | assumption | omega | (simp only [List.length_append, List.length_cons, List.length_nil, List.length_set, List.length_replicate, List.length_take, List.length_drop]; omega) | (simp only [fits] at *; omega) | (simp only [List.length_append, List.length_cons, List.length_nil, List.length_set, List.length_replicate, List.length_take, List.length_drop] at *; omega) | (simp; done) | decide) (by first | assumption | omega | (simp only [List.length_append, List.length_cons, List.length_nil, List.length_set, List.length_replicate, List.length_take, List.length_drop]; omega) | (simp only [fits] at *; omega) | (simp only [List.length_append, List.length_cons, List.length_nil, List.length_set, List.length_replicate, List.length_take, List.length_drop] at *; omega) | (simp; done) | decide) (by first | assumption | omega | (simp only [List.length_append, List.length_cons, List.length_nil, List.length_set, List.length_replicate, List.length_take, List.length_drop]; omega) | (simp only [fits] at *; omega) | (simp only [List.length_append, List.length_cons, List.length_nil, List.length_set, List.length_replicate, List.length_take, List.length_drop] at *; omega) | (simp; done) | decide) (by first | assumption | omega | (simp only [List.length_append, List.length_cons, List.length_nil, List.length_set, List.length_replicate, List.length_take, List.length_drop]; omega) | (simp only [fits] at *; omega) | (simp only [List.length_append, List.length_cons, List.length_nil, List.length_set, List.length_replicate, List.length_take, List.length_drop] at *; omega) | (simp; done) | decide)) [1] ?_)
    rintro _ _ ⟨zs17, rfl, rfl, hp18, hp19⟩
    refine RunR.dn ?_
    refine kblock_n ?_
    refine kseq_n ?_
    refine RunC.region ?_
    refine RunR.sil hU [0] 2 2 [6, 7, 8, 9, 20, 22, 23] [(6, .slice none 0 0), (7, pt b6), (8, pt b8), (9, pt b10), (20, .int .i64 i), (22, .agg (nums .i64 ([0, 4, 8, 12, 1, 5, 9, 13, 2, 6, 10, 14, 3, 7, 11, 15, 0, 5, 10, 15, 1, 6, 11, 12, 2, 7, 8, 13, 3, 4, 9, 14] : List Int)).toArray), (23, .int .i64 1)] ((-9223372036854775808 ≤ ((0 : Int) + 1) ∧ ((0 : Int) + 1) < 9223372036854775808) ∧ (True) ∧ True) rfl (by kernel_rfl) ⟨(by decide), trivial, trivial⟩ ?_
    refine RunR.dn ?_
    refine kround_n ?_
    refine RunC.sr ?_
    refine RunR.sl hU [] 1 1 [6, 7, 8, 9, 20, 22, 23, 24] [(6, .slice none 0 0), (7, pt b6), (8, pt b8), (9, pt b10), (20, .int .i64 i), (22, .agg (nums .i64 ([0, 4, 8, 12, 1, 5, 9, 13, 2, 6, 10, 14, 3, 7, 11, 15, 0, 5, 10, 15, 1, 6, 11, 12, 2, 7, 8, 13, 3, 4, 9, 14] : List Int)).toArray), (23, .int .i64 1), (24, .bool true)] 1 ?_
    refine RunR.nn ?_
    refine RunC.seq ?_
    refine RunC.cond (b := true) (by kernel_rfl) (fun _ => ?_) (fun h => by cases h)
    refine RunC.ks ?_
    refine RunC.seq ?_
    refine RunC.block ?_
    refine RunC.sr ?_
    refine RunR.sil hU [] 1 1 [6, 7, 8, 9, 20, 22, 23, 25] [(6, .slice none 0 0), (7, pt b6), (8, pt b8), (9, pt b10), (20, .int .i64 i), (22, .agg (nums .i64 ([0, 4, 8, 12, 1, 5, 9, 13, 2, 6, 10, 14, 3, 7, 11, 15, 0, 5, 10, 15, 1, 6, 11, 12, 2, 7, 8, 13, 3, 4, 9, 14] : List Int)).toArray), (23, .int .i64 1), (25, .agg (nums .i64 ([ 1,  5,  9,  13] : List Int)).toArray)] ((0 ≤ (1 : Int) ∧ (1 : Int) < ((8 : Nat) : Int)) ∧ True) rfl (by kernel_rfl) ⟨(by first | decide | (refine ⟨by decide, ?_⟩; simp only [List.size_toArray, nums_length, List.length_cons, List.length_nil]; decide)), trivial⟩ ?_
    refine RunR.st (some 11) (.alloc 107) (Step.al hU 4 32 (.agg #[.int .i64 0, .int .i64 0, .int .i64 0, .int .i64 0]) (fun b20 => ?_))
    have hl21 : (List.replicate 4 (0 : Int)).length = 4 := List.length_replicate
    refine RunR.st none (.store 107 (.tmp 11) (.tmp 25)) (Step.store_arr hU 0 b20 107 4 .i64 (List.replicate 4 (0 : Int)) ([ 1,  5,  9,  13] : List Int) (by kernel_rfl) (by kernel_rfl) (by kernel_rfl) (by kernel_rfl) (by first | rfl | omega | (simp; done)) (by first | rfl | omega | (simp; done)) ?_)
    have hl22 : (([ 1,  5,  9,  13] : List Int)).length = 4 := rfl
    refine RunR.nn ?_
    refine RunC.region ?_
    refine RunR.st (some 26) (.load 107 (.tmp 11)) (Step.load_arr hU 0 b20 107 4 .i64 ([ 1,  5,  9,  13] : List Int) (by kernel_rfl) (by kernel_rfl) (by kernel_rfl) (by kernel_rfl) (by first | rfl | omega | (simp; done)) (by kernel_rfl) ?_)
    refine RunR.st (some 27) (.call { callee := .value (.func 62), args := #[.tmp 8, .tmp 26], argTypes := #[105, 107] }) (Step.cn 62 [pt b8, .agg (nums .i64 ([ 1,  5,  9,  13] : List Int)).toArray] [blk b8 105 (nums .u32 zs17)] [blk b20 107 (nums .i64 ([ 1,  5,  9,  13] : List Int)), blk b14 107 (nums .i64 ([0,  4,  8,  12] : List Int)), blk b10 108 (nums .i64 ([0, 4, 8, 12, 1, 5, 9, 13, 2, 6, 10, 14, 3, 7, 11, 15, 0, 5, 10, 15, 1, 6, 11, 12, 2, 7, 8, 13, 3, 4, 9, 14] : List Int)), blk b6 105 (nums .u32 zs3), vw A (nums .u8 xs), vw A2 (nums .u8 ys)] (c_quarter_spec b8 zs17 1 5 9 13 (by first | rfl | assumption | omega | (simp only [List.length_append, List.length_cons, List.length_nil, List.length_set, List.length_replicate, List.length_take, List.length_drop]; omega) | (simp; done)) (by first | assumption | omega | (simp only [List.length_append, List.length_cons, List.length_nil, List.length_set, List.length_replicate, List.length_take, List.length_drop]; omega) | (simp only [fits] at *; omega) | (simp only [List.length_append, List.length_cons, List.length_nil, List.length_set, List.length_replicate, List.length_take, List.length_drop] at *; omega) | (simp; done) | decide) (by first | assumption | omega | (simp only [List.length_append, List.length_cons, List.length_nil, List.length_set, List.length_replicate, List.length_take, List.length_drop]; omega) | (simp only [fits] at *; omega) | (simp only [List.length_append, List.length_cons, List.length_nil, List.length_set, List.length_replicate, List.length_take, List.length_drop] at *; omega) | (simp; done) | decide) (by first | assumption | omega | (simp only [List.length_append, List.length_cons, List.length_nil, List.length_set, List.length_replicate, List.length_take, List.length_drop]; omega) | (simp only [fits] at *; omega) | (simp only [List.length_append, List.length_cons, List.length_nil, List.length_set, List.length_replicate, List.length_take, List.length_drop] at *; omega) | (simp; done) | decide) (by first | assumption | omega | (simp only [List.length_append, List.length_cons, List.length_nil, List.length_set, List.length_replicate, List.length_take, List.length_drop]; omega) | (simp only [fits] at *; omega) | (simp only [List.length_append, List.length_cons, List.length_nil, List.length_set, List.length_replicate, List.length_take, List.length_drop] at *; omega) | (simp; done) | decide)) [1] ?_)
    rintro _ _ ⟨zs23, rfl, rfl, hp24, hp25⟩
    refine RunR.dn ?_
    refine kblock_n ?_
    refine kseq_n ?_
    refine RunC.region ?_
    refine RunR.sil hU [0] 2 2 [6, 7, 8, 9, 20, 22, 23] [(6, .slice none 0 0), (7, pt b6), (8, pt b8), (9, pt b10), (20, .int .i64 i), (22, .agg (nums .i64 ([0, 4, 8, 12, 1, 5, 9, 13, 2, 6, 10, 14, 3, 7, 11, 15, 0, 5, 10, 15, 1, 6, 11, 12, 2, 7, 8, 13, 3, 4, 9, 14] : List Int)).toArray), (23, .int .i64 2)] ((-9223372036854775808 ≤ ((1 : Int) + 1) ∧ ((1 : Int) + 1) < 9223372036854775808) ∧ (True) ∧ True) rfl (by kernel_rfl) ⟨(by decide), trivial, trivial⟩ ?_
    refine RunR.dn ?_
    refine kround_n ?_
    refine RunC.sr ?_
    refine RunR.sl hU [] 1 1 [6, 7, 8, 9, 20, 22, 23, 24] [(6, .slice none 0 0), (7, pt b6), (8, pt b8), (9, pt b10), (20, .int .i64 i), (22, .agg (nums .i64 ([0, 4, 8, 12, 1, 5, 9, 13, 2, 6, 10, 14, 3, 7, 11, 15, 0, 5, 10, 15, 1, 6, 11, 12, 2, 7, 8, 13, 3, 4, 9, 14] : List Int)).toArray), (23, .int .i64 2), (24, .bool true)] 1 ?_
    refine RunR.nn ?_
    refine RunC.seq ?_
    refine RunC.cond (b := true) (by kernel_rfl) (fun _ => ?_) (fun h => by cases h)
    refine RunC.ks ?_
    refine RunC.seq ?_
    refine RunC.block ?_
    refine RunC.sr ?_
    refine RunR.sil hU [] 1 1 [6, 7, 8, 9, 20, 22, 23, 25] [(6, .slice none 0 0), (7, pt b6), (8, pt b8), (9, pt b10), (20, .int .i64 i), (22, .agg (nums .i64 ([0, 4, 8, 12, 1, 5, 9, 13, 2, 6, 10, 14, 3, 7, 11, 15, 0, 5, 10, 15, 1, 6, 11, 12, 2, 7, 8, 13, 3, 4, 9, 14] : List Int)).toArray), (23, .int .i64 2), (25, .agg (nums .i64 ([ 2,  6,  10,  14] : List Int)).toArray)] ((0 ≤ (2 : Int) ∧ (2 : Int) < ((8 : Nat) : Int)) ∧ True) rfl (by kernel_rfl) ⟨(by first | decide | (refine ⟨by decide, ?_⟩; simp only [List.size_toArray, nums_length, List.length_cons, List.length_nil]; decide)), trivial⟩ ?_
    refine RunR.st (some 11) (.alloc 107) (Step.al hU 4 32 (.agg #[.int .i64 0, .int .i64 0, .int .i64 0, .int .i64 0]) (fun b26 => ?_))
    have hl27 : (List.replicate 4 (0 : Int)).length = 4 := List.length_replicate
    refine RunR.st none (.store 107 (.tmp 11) (.tmp 25)) (Step.store_arr hU 0 b26 107 4 .i64 (List.replicate 4 (0 : Int)) ([ 2,  6,  10,  14] : List Int) (by kernel_rfl) (by kernel_rfl) (by kernel_rfl) (by kernel_rfl) (by first | rfl | omega | (simp; done)) (by first | rfl | omega | (simp; done)) ?_)
    have hl28 : (([ 2,  6,  10,  14] : List Int)).length = 4 := rfl
    refine RunR.nn ?_
    refine RunC.region ?_
    refine RunR.st (some 26) (.load 107 (.tmp 11)) (Step.load_arr hU 0 b26 107 4 .i64 ([ 2,  6,  10,  14] : List Int) (by kernel_rfl) (by kernel_rfl) (by kernel_rfl) (by kernel_rfl) (by first | rfl | omega | (simp; done)) (by kernel_rfl) ?_)
    refine RunR.st (some 27) (.call { callee := .value (.func 62), args := #[.tmp 8, .tmp 26], argTypes := #[105, 107] }) (Step.cn 62 [pt b8, .agg (nums .i64 ([ 2,  6,  10,  14] : List Int)).toArray] [blk b8 105 (nums .u32 zs23)] [blk b26 107 (nums .i64 ([ 2,  6,  10,  14] : List Int)), blk b20 107 (nums .i64 ([ 1,  5,  9,  13] : List Int)), blk b14 107 (nums .i64 ([0,  4,  8,  12] : List Int)), blk b10 108 (nums .i64 ([0, 4, 8, 12, 1, 5, 9, 13, 2, 6, 10, 14, 3, 7, 11, 15, 0, 5, 10, 15, 1, 6, 11, 12, 2, 7, 8, 13, 3, 4, 9, 14] : List Int)), blk b6 105 (nums .u32 zs3), vw A (nums .u8 xs), vw A2 (nums .u8 ys)] (c_quarter_spec b8 zs23 2 6 10 14 (by first | rfl | assumption | omega | (simp only [List.length_append, List.length_cons, List.length_nil, List.length_set, List.length_replicate, List.length_take, List.length_drop]; omega) | (simp; done)) (by first | assumption | omega | (simp only [List.length_append, List.length_cons, List.length_nil, List.length_set, List.length_replicate, List.length_take, List.length_drop]; omega) | (simp only [fits] at *; omega) | (simp only [List.length_append, List.length_cons, List.length_nil, List.length_set, List.length_replicate, List.length_take, List.length_drop] at *; omega) | (simp; done) | decide) (by first | assumption | omega | (simp only [List.length_append, List.length_cons, List.length_nil, List.length_set, List.length_replicate, List.length_take, List.length_drop]; omega) | (simp only [fits] at *; omega) | (simp only [List.length_append, List.length_cons, List.length_nil, List.length_set, List.length_replicate, List.length_take, List.length_drop] at *; omega) | (simp; done) | decide) (by first | assumption | omega | (simp only [List.length_append, List.length_cons, List.length_nil, List.length_set, List.length_replicate, List.length_take, List.length_drop]; omega) | (simp only [fits] at *; omega) | (simp only [List.length_append, List.length_cons, List.length_nil, List.length_set, List.length_replicate, List.length_take, List.length_drop] at *; omega) | (simp; done) | decide) (by first | assumption | omega | (simp only [List.length_append, List.length_cons, List.length_nil, List.length_set, List.length_replicate, List.length_take, List.length_drop]; omega) | (simp only [fits] at *; omega) | (simp only [List.length_append, List.length_cons, List.length_nil, List.length_set, List.length_replicate, List.length_take, List.length_drop] at *; omega) | (simp; done) | decide)) [1] ?_)
    rintro _ _ ⟨zs29, rfl, rfl, hp30, hp31⟩
    refine RunR.dn ?_
    refine kblock_n ?_
    refine kseq_n ?_
    refine RunC.region ?_
    refine RunR.sil hU [0] 2 2 [6, 7, 8, 9, 20, 22, 23] [(6, .slice none 0 0), (7, pt b6), (8, pt b8), (9, pt b10), (20, .int .i64 i), (22, .agg (nums .i64 ([0, 4, 8, 12, 1, 5, 9, 13, 2, 6, 10, 14, 3, 7, 11, 15, 0, 5, 10, 15, 1, 6, 11, 12, 2, 7, 8, 13, 3, 4, 9, 14] : List Int)).toArray), (23, .int .i64 3)] ((-9223372036854775808 ≤ ((2 : Int) + 1) ∧ ((2 : Int) + 1) < 9223372036854775808) ∧ (True) ∧ True) rfl (by kernel_rfl) ⟨(by decide), trivial, trivial⟩ ?_
    refine RunR.dn ?_
    refine kround_n ?_
    refine RunC.sr ?_
    refine RunR.sl hU [] 1 1 [6, 7, 8, 9, 20, 22, 23, 24] [(6, .slice none 0 0), (7, pt b6), (8, pt b8), (9, pt b10), (20, .int .i64 i), (22, .agg (nums .i64 ([0, 4, 8, 12, 1, 5, 9, 13, 2, 6, 10, 14, 3, 7, 11, 15, 0, 5, 10, 15, 1, 6, 11, 12, 2, 7, 8, 13, 3, 4, 9, 14] : List Int)).toArray), (23, .int .i64 3), (24, .bool true)] 1 ?_
    refine RunR.nn ?_
    refine RunC.seq ?_
    refine RunC.cond (b := true) (by kernel_rfl) (fun _ => ?_) (fun h => by cases h)
    refine RunC.ks ?_
    refine RunC.seq ?_
    refine RunC.block ?_
    refine RunC.sr ?_
    refine RunR.sil hU [] 1 1 [6, 7, 8, 9, 20, 22, 23, 25] [(6, .slice none 0 0), (7, pt b6), (8, pt b8), (9, pt b10), (20, .int .i64 i), (22, .agg (nums .i64 ([0, 4, 8, 12, 1, 5, 9, 13, 2, 6, 10, 14, 3, 7, 11, 15, 0, 5, 10, 15, 1, 6, 11, 12, 2, 7, 8, 13, 3, 4, 9, 14] : List Int)).toArray), (23, .int .i64 3), (25, .agg (nums .i64 ([ 3,  7,  11,  15] : List Int)).toArray)] ((0 ≤ (3 : Int) ∧ (3 : Int) < ((8 : Nat) : Int)) ∧ True) rfl (by kernel_rfl) ⟨(by first | decide | (refine ⟨by decide, ?_⟩; simp only [List.size_toArray, nums_length, List.length_cons, List.length_nil]; decide)), trivial⟩ ?_
    refine RunR.st (some 11) (.alloc 107) (Step.al hU 4 32 (.agg #[.int .i64 0, .int .i64 0, .int .i64 0, .int .i64 0]) (fun b32 => ?_))
    have hl33 : (List.replicate 4 (0 : Int)).length = 4 := List.length_replicate
    refine RunR.st none (.store 107 (.tmp 11) (.tmp 25)) (Step.store_arr hU 0 b32 107 4 .i64 (List.replicate 4 (0 : Int)) ([ 3,  7,  11,  15] : List Int) (by kernel_rfl) (by kernel_rfl) (by kernel_rfl) (by kernel_rfl) (by first | rfl | omega | (simp; done)) (by first | rfl | omega | (simp; done)) ?_)
    have hl34 : (([ 3,  7,  11,  15] : List Int)).length = 4 := rfl
    refine RunR.nn ?_
    refine RunC.region ?_
    refine RunR.st (some 26) (.load 107 (.tmp 11)) (Step.load_arr hU 0 b32 107 4 .i64 ([ 3,  7,  11,  15] : List Int) (by kernel_rfl) (by kernel_rfl) (by kernel_rfl) (by kernel_rfl) (by first | rfl | omega | (simp; done)) (by kernel_rfl) ?_)
    refine RunR.st (some 27) (.call { callee := .value (.func 62), args := #[.tmp 8, .tmp 26], argTypes := #[105, 107] }) (Step.cn 62 [pt b8, .agg (nums .i64 ([ 3,  7,  11,  15] : List Int)).toArray] [blk b8 105 (nums .u32 zs29)] [blk b32 107 (nums .i64 ([ 3,  7,  11,  15] : List Int)), blk b26 107 (nums .i64 ([ 2,  6,  10,  14] : List Int)), blk b20 107 (nums .i64 ([ 1,  5,  9,  13] : List Int)), blk b14 107 (nums .i64 ([0,  4,  8,  12] : List Int)), blk b10 108 (nums .i64 ([0, 4, 8, 12, 1, 5, 9, 13, 2, 6, 10, 14, 3, 7, 11, 15, 0, 5, 10, 15, 1, 6, 11, 12, 2, 7, 8, 13, 3, 4, 9, 14] : List Int)), blk b6 105 (nums .u32 zs3), vw A (nums .u8 xs), vw A2 (nums .u8 ys)] (c_quarter_spec b8 zs29 3 7 11 15 (by first | rfl | assumption | omega | (simp only [List.length_append, List.length_cons, List.length_nil, List.length_set, List.length_replicate, List.length_take, List.length_drop]; omega) | (simp; done)) (by first | assumption | omega | (simp only [List.length_append, List.length_cons, List.length_nil, List.length_set, List.length_replicate, List.length_take, List.length_drop]; omega) | (simp only [fits] at *; omega) | (simp only [List.length_append, List.length_cons, List.length_nil, List.length_set, List.length_replicate, List.length_take, List.length_drop] at *; omega) | (simp; done) | decide) (by first | assumption | omega | (simp only [List.length_append, List.length_cons, List.length_nil, List.length_set, List.length_replicate, List.length_take, List.length_drop]; omega) | (simp only [fits] at *; omega) | (simp only [List.length_append, List.length_cons, List.length_nil, List.length_set, List.length_replicate, List.length_take, List.length_drop] at *; omega) | (simp; done) | decide) (by first | assumption | omega | (simp only [List.length_append, List.length_cons, List.length_nil, List.length_set, List.length_replicate, List.length_take, List.length_drop]; omega) | (simp only [fits] at *; omega) | (simp only [List.length_append, List.length_cons, List.length_nil, List.length_set, List.length_replicate, List.length_take, List.length_drop] at *; omega) | (simp; done) | decide) (by first | assumption | omega | (simp only [List.length_append, List.length_cons, List.length_nil, List.length_set, List.length_replicate, List.length_take, List.length_drop]; omega) | (simp only [fits] at *; omega) | (simp only [List.length_append, List.length_cons, List.length_nil, List.length_set, List.length_replicate, List.length_take, List.length_drop] at *; omega) | (simp; done) | decide)) [1] ?_)
    rintro _ _ ⟨zs35, rfl, rfl, hp36, hp37⟩
    refine RunR.dn ?_
    refine kblock_n ?_
    refine kseq_n ?_
    refine RunC.region ?_
    refine RunR.sil hU [0] 2 2 [6, 7, 8, 9, 20, 22, 23] [(6, .slice none 0 0), (7, pt b6), (8, pt b8), (9, pt b10), (20, .int .i64 i), (22, .agg (nums .i64 ([0, 4, 8, 12, 1, 5, 9, 13, 2, 6, 10, 14, 3, 7, 11, 15, 0, 5, 10, 15, 1, 6, 11, 12, 2, 7, 8, 13, 3, 4, 9, 14] : List Int)).toArray), (23, .int .i64 4)] ((-9223372036854775808 ≤ ((3 : Int) + 1) ∧ ((3 : Int) + 1) < 9223372036854775808) ∧ (True) ∧ True) rfl (by kernel_rfl) ⟨(by decide), trivial, trivial⟩ ?_
    refine RunR.dn ?_
    refine kround_n ?_
    refine RunC.sr ?_
    refine RunR.sl hU [] 1 1 [6, 7, 8, 9, 20, 22, 23, 24] [(6, .slice none 0 0), (7, pt b6), (8, pt b8), (9, pt b10), (20, .int .i64 i), (22, .agg (nums .i64 ([0, 4, 8, 12, 1, 5, 9, 13, 2, 6, 10, 14, 3, 7, 11, 15, 0, 5, 10, 15, 1, 6, 11, 12, 2, 7, 8, 13, 3, 4, 9, 14] : List Int)).toArray), (23, .int .i64 4), (24, .bool true)] 1 ?_
    refine RunR.nn ?_
    refine RunC.seq ?_
    refine RunC.cond (b := true) (by kernel_rfl) (fun _ => ?_) (fun h => by cases h)
    refine RunC.ks ?_
    refine RunC.seq ?_
    refine RunC.block ?_
    refine RunC.sr ?_
    refine RunR.sil hU [] 1 1 [6, 7, 8, 9, 20, 22, 23, 25] [(6, .slice none 0 0), (7, pt b6), (8, pt b8), (9, pt b10), (20, .int .i64 i), (22, .agg (nums .i64 ([0, 4, 8, 12, 1, 5, 9, 13, 2, 6, 10, 14, 3, 7, 11, 15, 0, 5, 10, 15, 1, 6, 11, 12, 2, 7, 8, 13, 3, 4, 9, 14] : List Int)).toArray), (23, .int .i64 4), (25, .agg (nums .i64 ([ 0,  5,  10,  15] : List Int)).toArray)] ((0 ≤ (4 : Int) ∧ (4 : Int) < ((8 : Nat) : Int)) ∧ True) rfl (by kernel_rfl) ⟨(by first | decide | (refine ⟨by decide, ?_⟩; simp only [List.size_toArray, nums_length, List.length_cons, List.length_nil]; decide)), trivial⟩ ?_
    refine RunR.st (some 11) (.alloc 107) (Step.al hU 4 32 (.agg #[.int .i64 0, .int .i64 0, .int .i64 0, .int .i64 0]) (fun b38 => ?_))
    have hl39 : (List.replicate 4 (0 : Int)).length = 4 := List.length_replicate
    refine RunR.st none (.store 107 (.tmp 11) (.tmp 25)) (Step.store_arr hU 0 b38 107 4 .i64 (List.replicate 4 (0 : Int)) ([ 0,  5,  10,  15] : List Int) (by kernel_rfl) (by kernel_rfl) (by kernel_rfl) (by kernel_rfl) (by first | rfl | omega | (simp; done)) (by first | rfl | omega | (simp; done)) ?_)
    have hl40 : (([ 0,  5,  10,  15] : List Int)).length = 4 := rfl
    refine RunR.nn ?_
    refine RunC.region ?_
    refine RunR.st (some 26) (.load 107 (.tmp 11)) (Step.load_arr hU 0 b38 107 4 .i64 ([ 0,  5,  10,  15] : List Int) (by kernel_rfl) (by kernel_rfl) (by kernel_rfl) (by kernel_rfl) (by first | rfl | omega | (simp; done)) (by kernel_rfl) ?_)
    refine RunR.st (some 27) (.call { callee := .value (.func 62), args := #[.tmp 8, .tmp 26], argTypes := #[105, 107] }) (Step.cn 62 [pt b8, .agg (nums .i64 ([ 0,  5,  10,  15] : List Int)).toArray] [blk b8 105 (nums .u32 zs35)] [blk b38 107 (nums .i64 ([ 0,  5,  10,  15] : List Int)), blk b32 107 (nums .i64 ([ 3,  7,  11,  15] : List Int)), blk b26 107 (nums .i64 ([ 2,  6,  10,  14] : List Int)), blk b20 107 (nums .i64 ([ 1,  5,  9,  13] : List Int)), blk b14 107 (nums .i64 ([0,  4,  8,  12] : List Int)), blk b10 108 (nums .i64 ([0, 4, 8, 12, 1, 5, 9, 13, 2, 6, 10, 14, 3, 7, 11, 15, 0, 5, 10, 15, 1, 6, 11, 12, 2, 7, 8, 13, 3, 4, 9, 14] : List Int)), blk b6 105 (nums .u32 zs3), vw A (nums .u8 xs), vw A2 (nums .u8 ys)] (c_quarter_spec b8 zs35 0 5 10 15 (by first | rfl | assumption | omega | (simp only [List.length_append, List.length_cons, List.length_nil, List.length_set, List.length_replicate, List.length_take, List.length_drop]; omega) | (simp; done)) (by first | assumption | omega | (simp only [List.length_append, List.length_cons, List.length_nil, List.length_set, List.length_replicate, List.length_take, List.length_drop]; omega) | (simp only [fits] at *; omega) | (simp only [List.length_append, List.length_cons, List.length_nil, List.length_set, List.length_replicate, List.length_take, List.length_drop] at *; omega) | (simp; done) | decide) (by first | assumption | omega | (simp only [List.length_append, List.length_cons, List.length_nil, List.length_set, List.length_replicate, List.length_take, List.length_drop]; omega) | (simp only [fits] at *; omega) | (simp only [List.length_append, List.length_cons, List.length_nil, List.length_set, List.length_replicate, List.length_take, List.length_drop] at *; omega) | (simp; done) | decide) (by first | assumption | omega | (simp only [List.length_append, List.length_cons, List.length_nil, List.length_set, List.length_replicate, List.length_take, List.length_drop]; omega) | (simp only [fits] at *; omega) | (simp only [List.length_append, List.length_cons, List.length_nil, List.length_set, List.length_replicate, List.length_take, List.length_drop] at *; omega) | (simp; done) | decide) (by first | assumption | omega | (simp only [List.length_append, List.length_cons, List.length_nil, List.length_set, List.length_replicate, List.length_take, List.length_drop]; omega) | (simp only [fits] at *; omega) | (simp only [List.length_append, List.length_cons, List.length_nil, List.length_set, List.length_replicate, List.length_take, List.length_drop] at *; omega) | (simp; done) | decide)) [1] ?_)
    rintro _ _ ⟨zs41, rfl, rfl, hp42, hp43⟩
    refine RunR.dn ?_
    refine kblock_n ?_
    refine kseq_n ?_
    refine RunC.region ?_
    refine RunR.sil hU [0] 2 2 [6, 7, 8, 9, 20, 22, 23] [(6, .slice none 0 0), (7, pt b6), (8, pt b8), (9, pt b10), (20, .int .i64 i), (22, .agg (nums .i64 ([0, 4, 8, 12, 1, 5, 9, 13, 2, 6, 10, 14, 3, 7, 11, 15, 0, 5, 10, 15, 1, 6, 11, 12, 2, 7, 8, 13, 3, 4, 9, 14] : List Int)).toArray), (23, .int .i64 5)] ((-9223372036854775808 ≤ ((4 : Int) + 1) ∧ ((4 : Int) + 1) < 9223372036854775808) ∧ (True) ∧ True) rfl (by kernel_rfl) ⟨(by decide), trivial, trivial⟩ ?_
    refine RunR.dn ?_
    refine kround_n ?_
    refine RunC.sr ?_
    refine RunR.sl hU [] 1 1 [6, 7, 8, 9, 20, 22, 23, 24] [(6, .slice none 0 0), (7, pt b6), (8, pt b8), (9, pt b10), (20, .int .i64 i), (22, .agg (nums .i64 ([0, 4, 8, 12, 1, 5, 9, 13, 2, 6, 10, 14, 3, 7, 11, 15, 0, 5, 10, 15, 1, 6, 11, 12, 2, 7, 8, 13, 3, 4, 9, 14] : List Int)).toArray), (23, .int .i64 5), (24, .bool true)] 1 ?_
    refine RunR.nn ?_
    refine RunC.seq ?_
    refine RunC.cond (b := true) (by kernel_rfl) (fun _ => ?_) (fun h => by cases h)
    refine RunC.ks ?_
    refine RunC.seq ?_
    refine RunC.block ?_
    refine RunC.sr ?_
    refine RunR.sil hU [] 1 1 [6, 7, 8, 9, 20, 22, 23, 25] [(6, .slice none 0 0), (7, pt b6), (8, pt b8), (9, pt b10), (20, .int .i64 i), (22, .agg (nums .i64 ([0, 4, 8, 12, 1, 5, 9, 13, 2, 6, 10, 14, 3, 7, 11, 15, 0, 5, 10, 15, 1, 6, 11, 12, 2, 7, 8, 13, 3, 4, 9, 14] : List Int)).toArray), (23, .int .i64 5), (25, .agg (nums .i64 ([ 1,  6,  11,  12] : List Int)).toArray)] ((0 ≤ (5 : Int) ∧ (5 : Int) < ((8 : Nat) : Int)) ∧ True) rfl (by kernel_rfl) ⟨(by first | decide | (refine ⟨by decide, ?_⟩; simp only [List.size_toArray, nums_length, List.length_cons, List.length_nil]; decide)), trivial⟩ ?_
    refine RunR.st (some 11) (.alloc 107) (Step.al hU 4 32 (.agg #[.int .i64 0, .int .i64 0, .int .i64 0, .int .i64 0]) (fun b44 => ?_))
    have hl45 : (List.replicate 4 (0 : Int)).length = 4 := List.length_replicate
    refine RunR.st none (.store 107 (.tmp 11) (.tmp 25)) (Step.store_arr hU 0 b44 107 4 .i64 (List.replicate 4 (0 : Int)) ([ 1,  6,  11,  12] : List Int) (by kernel_rfl) (by kernel_rfl) (by kernel_rfl) (by kernel_rfl) (by first | rfl | omega | (simp; done)) (by first | rfl | omega | (simp; done)) ?_)
    have hl46 : (([ 1,  6,  11,  12] : List Int)).length = 4 := rfl
    refine RunR.nn ?_
    refine RunC.region ?_
    refine RunR.st (some 26) (.load 107 (.tmp 11)) (Step.load_arr hU 0 b44 107 4 .i64 ([ 1,  6,  11,  12] : List Int) (by kernel_rfl) (by kernel_rfl) (by kernel_rfl) (by kernel_rfl) (by first | rfl | omega | (simp; done)) (by kernel_rfl) ?_)
    refine RunR.st (some 27) (.call { callee := .value (.func 62), args := #[.tmp 8, .tmp 26], argTypes := #[105, 107] }) (Step.cn 62 [pt b8, .agg (nums .i64 ([ 1,  6,  11,  12] : List Int)).toArray] [blk b8 105 (nums .u32 zs41)] [blk b44 107 (nums .i64 ([ 1,  6,  11,  12] : List Int)), blk b38 107 (nums .i64 ([ 0,  5,  10,  15] : List Int)), blk b32 107 (nums .i64 ([ 3,  7,  11,  15] : List Int)), blk b26 107 (nums .i64 ([ 2,  6,  10,  14] : List Int)), blk b20 107 (nums .i64 ([ 1,  5,  9,  13] : List Int)), blk b14 107 (nums .i64 ([0,  4,  8,  12] : List Int)), blk b10 108 (nums .i64 ([0, 4, 8, 12, 1, 5, 9, 13, 2, 6, 10, 14, 3, 7, 11, 15, 0, 5, 10, 15, 1, 6, 11, 12, 2, 7, 8, 13, 3, 4, 9, 14] : List Int)), blk b6 105 (nums .u32 zs3), vw A (nums .u8 xs), vw A2 (nums .u8 ys)] (c_quarter_spec b8 zs41 1 6 11 12 (by first | rfl | assumption | omega | (simp only [List.length_append, List.length_cons, List.length_nil, List.length_set, List.length_replicate, List.length_take, List.length_drop]; omega) | (simp; done)) (by first | assumption | omega | (simp only [List.length_append, List.length_cons, List.length_nil, List.length_set, List.length_replicate, List.length_take, List.length_drop]; omega) | (simp only [fits] at *; omega) | (simp only [List.length_append, List.length_cons, List.length_nil, List.length_set, List.length_replicate, List.length_take, List.length_drop] at *; omega) | (simp; done) | decide) (by first | assumption | omega | (simp only [List.length_append, List.length_cons, List.length_nil, List.length_set, List.length_replicate, List.length_take, List.length_drop]; omega) | (simp only [fits] at *; omega) | (simp only [List.length_append, List.length_cons, List.length_nil, List.length_set, List.length_replicate, List.length_take, List.length_drop] at *; omega) | (simp; done) | decide) (by first | assumption | omega | (simp only [List.length_append, List.length_cons, List.length_nil, List.length_set, List.length_replicate, List.length_take, List.length_drop]; omega) | (simp only [fits] at *; omega) | (simp only [List.length_append, List.length_cons, List.length_nil, List.length_set, List.length_replicate, List.length_take, List.length_drop] at *; omega) | (simp; done) | decide) (by first | assumption | omega | (simp only [List.length_append, List.length_cons, List.length_nil, List.length_set, List.length_replicate, List.length_take, List.length_drop]; omega) | (simp only [fits] at *; omega) | (simp only [List.length_append, List.length_cons, List.length_nil, List.length_set, List.length_replicate, List.length_take, List.length_drop] at *; omega) | (simp; done) | decide)) [1] ?_)
    rintro _ _ ⟨zs47, rfl, rfl, hp48, hp49⟩
    refine RunR.dn ?_
    refine kblock_n ?_
    refine kseq_n ?_
    refine RunC.region ?_
    refine RunR.sil hU [0] 2 2 [6, 7, 8, 9, 20, 22, 23] [(6, .slice none 0 0), (7, pt b6), (8, pt b8), (9, pt b10), (20, .int .i64 i), (22, .agg (nums .i64 ([0, 4, 8, 12, 1, 5, 9, 13, 2, 6, 10, 14, 3, 7, 11, 15, 0, 5, 10, 15, 1, 6, 11, 12, 2, 7, 8, 13, 3, 4, 9, 14] : List Int)).toArray), (23, .int .i64 6)] ((-9223372036854775808 ≤ ((5 : Int) + 1) ∧ ((5 : Int) + 1) < 9223372036854775808) ∧ (True) ∧ True) rfl (by kernel_rfl) ⟨(by decide), trivial, trivial⟩ ?_
    refine RunR.dn ?_
    refine kround_n ?_
    refine RunC.sr ?_
    refine RunR.sl hU [] 1 1 [6, 7, 8, 9, 20, 22, 23, 24] [(6, .slice none 0 0), (7, pt b6), (8, pt b8), (9, pt b10), (20, .int .i64 i), (22, .agg (nums .i64 ([0, 4, 8, 12, 1, 5, 9, 13, 2, 6, 10, 14, 3, 7, 11, 15, 0, 5, 10, 15, 1, 6, 11, 12, 2, 7, 8, 13, 3, 4, 9, 14] : List Int)).toArray), (23, .int .i64 6), (24, .bool true)] 1 ?_
    refine RunR.nn ?_
    refine RunC.seq ?_
    refine RunC.cond (b := true) (by kernel_rfl) (fun _ => ?_) (fun h => by cases h)
    refine RunC.ks ?_
    refine RunC.seq ?_
    refine RunC.block ?_
    refine RunC.sr ?_
    refine RunR.sil hU [] 1 1 [6, 7, 8, 9, 20, 22, 23, 25] [(6, .slice none 0 0), (7, pt b6), (8, pt b8), (9, pt b10), (20, .int .i64 i), (22, .agg (nums .i64 ([0, 4, 8, 12, 1, 5, 9, 13, 2, 6, 10, 14, 3, 7, 11, 15, 0, 5, 10, 15, 1, 6, 11, 12, 2, 7, 8, 13, 3, 4, 9, 14] : List Int)).toArray), (23, .int .i64 6), (25, .agg (nums .i64 ([ 2,  7,  8,  13] : List Int)).toArray)] ((0 ≤ (6 : Int) ∧ (6 : Int) < ((8 : Nat) : Int)) ∧ True) rfl (by kernel_rfl) ⟨(by first | decide | (refine ⟨by decide, ?_⟩; simp only [List.size_toArray, nums_length, List.length_cons, List.length_nil]; decide)), trivial⟩ ?_
    refine RunR.st (some 11) (.alloc 107) (Step.al hU 4 32 (.agg #[.int .i64 0, .int .i64 0, .int .i64 0, .int .i64 0]) (fun b50 => ?_))
    have hl51 : (List.replicate 4 (0 : Int)).length = 4 := List.length_replicate
    refine RunR.st none (.store 107 (.tmp 11) (.tmp 25)) (Step.store_arr hU 0 b50 107 4 .i64 (List.replicate 4 (0 : Int)) ([ 2,  7,  8,  13] : List Int) (by kernel_rfl) (by kernel_rfl) (by kernel_rfl) (by kernel_rfl) (by first | rfl | omega | (simp; done)) (by first | rfl | omega | (simp; done)) ?_)
    have hl52 : (([ 2,  7,  8,  13] : List Int)).length = 4 := rfl
    refine RunR.nn ?_
    refine RunC.region ?_
    refine RunR.st (some 26) (.load 107 (.tmp 11)) (Step.load_arr hU 0 b50 107 4 .i64 ([ 2,  7,  8,  13] : List Int) (by kernel_rfl) (by kernel_rfl) (by kernel_rfl) (by kernel_rfl) (by first | rfl | omega | (simp; done)) (by kernel_rfl) ?_)
    refine RunR.st (some 27) (.call { callee := .value (.func 62), args := #[.tmp 8, .tmp 26], argTypes := #[105, 107] }) (Step.cn 62 [pt b8, .agg (nums .i64 ([ 2,  7,  8,  13] : List Int)).toArray] [blk b8 105 (nums .u32 zs47)] [blk b50 107 (nums .i64 ([ 2,  7,  8,  13] : List Int)), blk b44 107 (nums .i64 ([ 1,  6,  11,  12] : List Int)), blk b38 107 (nums .i64 ([ 0,  5,  10,  15] : List Int)), blk b32 107 (nums .i64 ([ 3,  7,  11,  15] : List Int)), blk b26 107 (nums .i64 ([ 2,  6,  10,  14] : List Int)), blk b20 107 (nums .i64 ([ 1,  5,  9,  13] : List Int)), blk b14 107 (nums .i64 ([0,  4,  8,  12] : List Int)), blk b10 108 (nums .i64 ([0, 4, 8, 12, 1, 5, 9, 13, 2, 6, 10, 14, 3, 7, 11, 15, 0, 5, 10, 15, 1, 6, 11, 12, 2, 7, 8, 13, 3, 4, 9, 14] : List Int)), blk b6 105 (nums .u32 zs3), vw A (nums .u8 xs), vw A2 (nums .u8 ys)] (c_quarter_spec b8 zs47 2 7 8 13 (by first | rfl | assumption | omega | (simp only [List.length_append, List.length_cons, List.length_nil, List.length_set, List.length_replicate, List.length_take, List.length_drop]; omega) | (simp; done)) (by first | assumption | omega | (simp only [List.length_append, List.length_cons, List.length_nil, List.length_set, List.length_replicate, List.length_take, List.length_drop]; omega) | (simp only [fits] at *; omega) | (simp only [List.length_append, List.length_cons, List.length_nil, List.length_set, List.length_replicate, List.length_take, List.length_drop] at *; omega) | (simp; done) | decide) (by first | assumption | omega | (simp only [List.length_append, List.length_cons, List.length_nil, List.length_set, List.length_replicate, List.length_take, List.length_drop]; omega) | (simp only [fits] at *; omega) | (simp only [List.length_append, List.length_cons, List.length_nil, List.length_set, List.length_replicate, List.length_take, List.length_drop] at *; omega) | (simp; done) | decide) (by first | assumption | omega | (simp only [List.length_append, List.length_cons, List.length_nil, List.length_set, List.length_replicate, List.length_take, List.length_drop]; omega) | (simp only [fits] at *; omega) | (simp only [List.length_append, List.length_cons, List.length_nil, List.length_set, List.length_replicate, List.length_take, List.length_drop] at *; omega) | (simp; done) | decide) (by first | assumption | omega | (simp only [List.length_append, List.length_cons, List.length_nil, List.length_set, List.length_replicate, List.length_take, List.length_drop]; omega) | (simp only [fits] at *; omega) | (simp only [List.length_append, List.length_cons, List.length_nil, List.length_set, List.length_replicate, List.length_take, List.length_drop] at *; omega) | (simp; done) | decide)) [1] ?_)
    rintro _ _ ⟨zs53, rfl, rfl, hp54, hp55⟩
    refine RunR.dn ?_
    refine kblock_n ?_
    refine kseq_n ?_
    refine RunC.region ?_
    refine RunR.sil hU [0] 2 2 [6, 7, 8, 9, 20, 22, 23] [(6, .slice none 0 0), (7, pt b6), (8, pt b8), (9, pt b10), (20, .int .i64 i), (22, .agg (nums .i64 ([0, 4, 8, 12, 1, 5, 9, 13, 2, 6, 10, 14, 3, 7, 11, 15, 0, 5, 10, 15, 1, 6, 11, 12, 2, 7, 8, 13, 3, 4, 9, 14] : List Int)).toArray), (23, .int .i64 7)] ((-9223372036854775808 ≤ ((6 : Int) + 1) ∧ ((6 : Int) + 1) < 9223372036854775808) ∧ (True) ∧ True) rfl (by kernel_rfl) ⟨(by decide), trivial, trivial⟩ ?_
    refine RunR.dn ?_
    refine kround_n ?_
    refine RunC.sr ?_
    refine RunR.sl hU [] 1 1 [6, 7, 8, 9, 20, 22, 23, 24] [(6, .slice none 0 0), (7, pt b6), (8, pt b8), (9, pt b10), (20, .int .i64 i), (22, .agg (nums .i64 ([0, 4, 8, 12, 1, 5, 9, 13, 2, 6, 10, 14, 3, 7, 11, 15, 0, 5, 10, 15, 1, 6, 11, 12, 2, 7, 8, 13, 3, 4, 9, 14] : List Int)).toArray), (23, .int .i64 7), (24, .bool true)] 1 ?_
    refine RunR.nn ?_
    refine RunC.seq ?_
    refine RunC.cond (b := true) (by kernel_rfl) (fun _ => ?_) (fun h => by cases h)
    refine RunC.ks ?_
    refine RunC.seq ?_
    refine RunC.block ?_
    refine RunC.sr ?_
    refine RunR.sil hU [] 1 1 [6, 7, 8, 9, 20, 22, 23, 25] [(6, .slice none 0 0), (7, pt b6), (8, pt b8), (9, pt b10), (20, .int .i64 i), (22, .agg (nums .i64 ([0, 4, 8, 12, 1, 5, 9, 13, 2, 6, 10, 14, 3, 7, 11, 15, 0, 5, 10, 15, 1, 6, 11, 12, 2, 7, 8, 13, 3, 4, 9, 14] : List Int)).toArray), (23, .int .i64 7), (25, .agg (nums .i64 ([ 3,  4,  9,  14] : List Int)).toArray)] ((0 ≤ (7 : Int) ∧ (7 : Int) < ((8 : Nat) : Int)) ∧ True) rfl (by kernel_rfl) ⟨(by first | decide | (refine ⟨by decide, ?_⟩; simp only [List.size_toArray, nums_length, List.length_cons, List.length_nil]; decide)), trivial⟩ ?_
    refine RunR.st (some 11) (.alloc 107) (Step.al hU 4 32 (.agg #[.int .i64 0, .int .i64 0, .int .i64 0, .int .i64 0]) (fun b56 => ?_))
    have hl57 : (List.replicate 4 (0 : Int)).length = 4 := List.length_replicate
    refine RunR.st none (.store 107 (.tmp 11) (.tmp 25)) (Step.store_arr hU 0 b56 107 4 .i64 (List.replicate 4 (0 : Int)) ([ 3,  4,  9,  14] : List Int) (by kernel_rfl) (by kernel_rfl) (by kernel_rfl) (by kernel_rfl) (by first | rfl | omega | (simp; done)) (by first | rfl | omega | (simp; done)) ?_)
    have hl58 : (([ 3,  4,  9,  14] : List Int)).length = 4 := rfl
    refine RunR.nn ?_
    refine RunC.region ?_
    refine RunR.st (some 26) (.load 107 (.tmp 11)) (Step.load_arr hU 0 b56 107 4 .i64 ([ 3,  4,  9,  14] : List Int) (by kernel_rfl) (by kernel_rfl) (by kernel_rfl) (by kernel_rfl) (by first | rfl | omega | (simp; done)) (by kernel_rfl) ?_)
    refine RunR.st (some 27) (.call { callee := .value (.func 62), args := #[.tmp 8, .tmp 26], argTypes := #[105, 107] }) (Step.cn 62 [pt b8, .agg (nums .i64 ([ 3,  4,  9,  14] : List Int)).toArray] [blk b8 105 (nums .u32 zs53)] [blk b56 107 (nums .i64 ([ 3,  4,  9,  14] : List Int)), blk b50 107 (nums .i64 ([ 2,  7,  8,  13] : List Int)), blk b44 107 (nums .i64 ([ 1,  6,  11,  12] : List Int)), blk b38 107 (nums .i64 ([ 0,  5,  10,  15] : List Int)), blk b32 107 (nums .i64 ([ 3,  7,  11,  15] : List Int)), blk b26 107 (nums .i64 ([ 2,  6,  10,  14] : List Int)), blk b20 107 (nums .i64 ([ 1,  5,  9,  13] : List Int)), blk b14 107 (nums .i64 ([0,  4,  8,  12] : List Int)), blk b10 108 (nums .i64 ([0, 4, 8, 12, 1, 5, 9, 13, 2, 6, 10, 14, 3, 7, 11, 15, 0, 5, 10, 15, 1, 6, 11, 12, 2, 7, 8, 13, 3, 4, 9, 14] : List Int)), blk b6 105 (nums .u32 zs3), vw A (nums .u8 xs), vw A2 (nums .u8 ys)] (c_quarter_spec b8 zs53 3 4 9 14 (by first | rfl | assumption | omega | (simp only [List.length_append, List.length_cons, List.length_nil, List.length_set, List.length_replicate, List.length_take, List.length_drop]; omega) | (simp; done)) (by first | assumption | omega | (simp only [List.length_append, List.length_cons, List.length_nil, List.length_set, List.length_replicate, List.length_take, List.length_drop]; omega) | (simp only [fits] at *; omega) | (simp only [List.length_append, List.length_cons, List.length_nil, List.length_set, List.length_replicate, List.length_take, List.length_drop] at *; omega) | (simp; done) | decide) (by first | assumption | omega | (simp only [List.length_append, List.length_cons, List.length_nil, List.length_set, List.length_replicate, List.length_take, List.length_drop]; omega) | (simp only [fits] at *; omega) | (simp only [List.length_append, List.length_cons, List.length_nil, List.length_set, List.length_replicate, List.length_take, List.length_drop] at *; omega) | (simp; done) | decide) (by first | assumption | omega | (simp only [List.length_append, List.length_cons, List.length_nil, List.length_set, List.length_replicate, List.length_take, List.length_drop]; omega) | (simp only [fits] at *; omega) | (simp only [List.length_append, List.length_cons, List.length_nil, List.length_set, List.length_replicate, List.length_take, List.length_drop] at *; omega) | (simp; done) | decide) (by first | assumption | omega | (simp only [List.length_append, List.length_cons, List.length_nil, List.length_set, List.length_replicate, List.length_take, List.length_drop]; omega) | (simp only [fits] at *; omega) | (simp only [List.length_append, List.length_cons, List.length_nil, List.length_set, List.length_replicate, List.length_take, List.length_drop] at *; omega) | (simp; done) | decide)) [1] ?_)
    rintro _ _ ⟨zs59, rfl, rfl, hp60, hp61⟩
    refine RunR.dn ?_
    refine kblock_n ?_
    refine kseq_n ?_
    refine RunC.region ?_
    refine RunR.sil hU [0] 2 2 [6, 7, 8, 9, 20, 22, 23] [(6, .slice none 0 0), (7, pt b6), (8, pt b8), (9, pt b10), (20, .int .i64 i), (22, .agg (nums .i64 ([0, 4, 8, 12, 1, 5, 9, 13, 2, 6, 10, 14, 3, 7, 11, 15, 0, 5, 10, 15, 1, 6, 11, 12, 2, 7, 8, 13, 3, 4, 9, 14] : List Int)).toArray), (23, .int .i64 8)] ((-9223372036854775808 ≤ ((7 : Int) + 1) ∧ ((7 : Int) + 1) < 9223372036854775808) ∧ (True) ∧ True) rfl (by kernel_rfl) ⟨(by decide), trivial, trivial⟩ ?_
    refine RunR.dn ?_
    refine kround_n ?_
    refine RunC.sr ?_
    refine RunR.sl hU [] 1 1 [6, 7, 8, 9, 20, 22, 23, 24] [(6, .slice none 0 0), (7, pt b6), (8, pt b8), (9, pt b10), (20, .int .i64 i), (22, .agg (nums .i64 ([0, 4, 8, 12, 1, 5, 9, 13, 2, 6, 10, 14, 3, 7, 11, 15, 0, 5, 10, 15, 1, 6, 11, 12, 2, 7, 8, 13, 3, 4, 9, 14] : List Int)).toArray), (23, .int .i64 8), (24, .bool false)] 1 ?_
    refine RunR.nn ?_
    refine RunC.seq ?_
    refine RunC.cond (b := false) (by kernel_rfl) (fun h => by cases h) (fun _ => ?_)
    refine RunC.exit ?_
    refine kseq_e ?_
    refine kround_e ?_
    refine kblock_e ?_
    refine kblock_n ?_
    refine kseq_n ?_
    refine RunC.region ?_
    refine RunR.sil hU [0] 2 2 [6, 7, 8, 9, 20] [(6, .slice none 0 0), (7, pt b6), (8, pt b8), (9, pt b10), (20, .int .i64 (i + 1))] ((-9223372036854775808 ≤ (i + 1) ∧ (i + 1) < 9223372036854775808) ∧ (True) ∧ True) rfl (by kernel_rfl) ⟨(by omega), trivial, trivial⟩ ?_
    refine RunR.dn ?_
    refine kloop_n _ [6, 7, 8, 9, 20] [0, 8, 8, 8, 8] [(6, .slice none 0 0), (7, pt b6), (8, pt b8), (9, pt b10), (20, .int .i64 (i + 1))] [blk b8 105 (nums .u32 zs59), blk b10 108 (nums .i64 ([0, 4, 8, 12, 1, 5, 9, 13, 2, 6, 10, 14, 3, 7, 11, 15, 0, 5, 10, 15, 1, 6, 11, 12, 2, 7, 8, 13, 3, 4, 9, 14] : List Int)), blk b6 105 (nums .u32 zs3), vw A (nums .u8 xs), vw A2 (nums .u8 ys)] (by kernel_rfl) (by kernel_rfl) ?_ ⟨(i + 1), zs59, (by first | assumption | omega | (simp only [List.length_append, List.length_cons, List.length_nil, List.length_set, List.length_replicate, List.length_take, List.length_drop]; omega) | (simp only [fits] at *; omega) | (simp only [List.length_append, List.length_cons, List.length_nil, List.length_set, List.length_replicate, List.length_take, List.length_drop] at *; omega) | (simp; done) | decide), (by first | assumption | omega | (simp only [List.length_append, List.length_cons, List.length_nil, List.length_set, List.length_replicate, List.length_take, List.length_drop]; omega) | (simp only [fits] at *; omega) | (simp only [List.length_append, List.length_cons, List.length_nil, List.length_set, List.length_replicate, List.length_take, List.length_drop] at *; omega) | (simp; done) | decide), (by rw [show (i + 1).toNat = i.toNat + 1 by omega, rounds, ← hv]; simp only [two, hp4, hp18, hp24, hp30, hp36, hp42, hp48, hp54, hp60]), (by assumption), rfl, (by first | rfl | simp only [List.length_set]), (by first | rfl | simp only [List.length_set])⟩
    show ((10 - (i + 1)).toNat : Nat) < ((10 - i).toNat : Nat)
    omega
  · skip
    refine RunC.exit ?_
    refine kseq_e ?_
    refine kloop_e ?_
    refine kblock_e ?_
    refine kseq_n ?_
    refine RunC.sr ?_
    refine RunR.st (some 30) (.makeSlice 24 (.const (.int .i64 0)) (.const (.int .i64 64))) (Step.make_room hU 5 1 .u8 .i64 .i64 0 64 rfl rfl (by kernel_rfl) (by kernel_rfl) (by omega) (by omega) (by kernel_rfl) (fun b62 => ?_))
    refine RunR.sl hU [] 1 2 [6, 7, 8, 12] [(6, .slice none 0 0), (7, pt b6), (8, pt b8), (12, .slice (some ⟨b62, 0, none⟩) 0 64)] 1 ?_
    refine RunR.nn ?_
    refine RunC.seq ?_
    refine RunC.sr ?_
    refine RunR.sl hU [] 1 1 [6, 7, 8, 12, 31] [(6, .slice none 0 0), (7, pt b6), (8, pt b8), (12, .slice (some ⟨b62, 0, none⟩) 0 64), (31, .int .i64 0)] 1 ?_
    refine RunR.nn ?_
    refine RunC.block ?_
    refine RunC.env [6, 7, 8, 12, 31] [(6, .slice none 0 0), (7, pt b6), (8, pt b8), (12, .slice (some ⟨b62, 0, none⟩) 0 64), (31, .int .i64 0)] (by kernel_rfl) ?_
    refine RunC.only [0, 0, 0, 0, 0, 0] [row 5 1 (.slice (some ⟨b62, 0, none⟩) 0 64) 0 (nums .u8 ([] : List Int)), blk b8 105 (nums .u32 vs), blk b10 108 (nums .i64 ([0, 4, 8, 12, 1, 5, 9, 13, 2, 6, 10, 14, 3, 7, 11, 15, 0, 5, 10, 15, 1, 6, 11, 12, 2, 7, 8, 13, 3, 4, 9, 14] : List Int)), blk b6 105 (nums .u32 zs3), vw A (nums .u8 xs), vw A2 (nums .u8 ys)] (by kernel_rfl) ?_
    refine RunC.loop (σ := Nat) (fun n_ t_ D_ => ∃ (j : Int) (os : List Int) (A3 : Option Addr) (c3 : Nat), (0 ≤ j) ∧ (j ≤ 16) ∧ (os = outs vs zs3 j.toNat) ∧ (os.length = 4 * j.toNat) ∧ (In .u8 os) ∧ (os.length ≤ c3) ∧ (0 < os.length → Option.isSome A3 = true) ∧ n_ = ((16 - j).toNat : Nat) ∧ t_ = [(6, .slice none 0 0), (7, pt b6), (8, pt b8), (12, .slice A3 os.length c3), (31, .int .i64 j)] ∧ D_ = [row 5 1 (.slice A3 os.length c3) os.length (nums .u8 os), blk b8 105 (nums .u32 vs), blk b10 108 (nums .i64 ([0, 4, 8, 12, 1, 5, 9, 13, 2, 6, 10, 14, 3, 7, 11, 15, 0, 5, 10, 15, 1, 6, 11, 12, 2, 7, 8, 13, 3, 4, 9, 14] : List Int)), blk b6 105 (nums .u32 zs3), vw A (nums .u8 xs), vw A2 (nums .u8 ys)]) id _ ⟨0, ([] : List Int), (some ⟨b62, 0, none⟩), 64, (by first | assumption | omega | (simp only [List.length_append, List.length_cons, List.length_nil, List.length_set, List.length_replicate, List.length_take, List.length_drop]; omega) | (simp only [fits] at *; omega) | (simp only [List.length_append, List.length_cons, List.length_nil, List.length_set, List.length_replicate, List.length_take, List.length_drop] at *; omega) | (simp; done) | decide), (by first | assumption | omega | (simp only [List.length_append, List.length_cons, List.length_nil, List.length_set, List.length_replicate, List.length_take, List.length_drop]; omega) | (simp only [fits] at *; omega) | (simp only [List.length_append, List.length_cons, List.length_nil, List.length_set, List.length_replicate, List.length_take, List.length_drop] at *; omega) | (simp; done) | decide), (by rfl), (by rfl), (by (repeat first | assumption | (simp only [fits]; omega) | with_reducible first | exact fits_wrap _ _ | exact fits_bits2 _ _ _ _ | exact In.nil _ | exact In.sb _ | exact In.replicate _ _ | apply In.append | apply In.cons | apply In.set | apply In.take | apply In.drop | apply In.rev)), (by first | assumption | omega | (simp only [List.length_append, List.length_cons, List.length_nil, List.length_set, List.length_replicate, List.length_take, List.length_drop]; omega) | (simp only [fits] at *; omega) | (simp only [List.length_append, List.length_cons, List.length_nil, List.length_set, List.length_replicate, List.length_take, List.length_drop] at *; omega) | (simp; done) | decide), (fun _ => rfl), rfl, rfl, rfl⟩ ?_
    rintro n_ _ _ ⟨j, os, A3, c3, hj, hj2, ho, hol, hoi, hoc, hA, rfl, rfl, rfl⟩
    refine RunC.sr ?_
    refine RunR.sl hU [] 1 1 [6, 7, 8, 12, 31, 32] [(6, .slice none 0 0), (7, pt b6), (8, pt b8), (12, .slice A3 os.length c3), (31, .int .i64 j), (32, .bool (decide (j < 16)))] 1 ?_
    refine RunR.nn ?_
    refine RunC.seq ?_
    refine RunC.condp (j < 16) (by kernel_rfl) (fun h63 => ?_) (fun h63 => ?_)
    · skip
      refine RunC.ks ?_
      refine RunC.seq ?_
      refine RunC.block ?_
      refine RunC.sr ?_
      refine RunR.sl hU [] 2 2 [6, 7, 8, 12, 13, 31] [(6, .slice none 0 0), (7, pt b6), (8, pt b8), (12, .slice A3 os.length c3), (13, .int .i64 j), (31, .int .i64 j)] 2 ?_
      refine RunR.nn ?_
      refine RunC.regionU hU 11 [blk b8 105 (nums .u32 vs), blk b6 105 (nums .u32 zs3)] [1, 3] [8, 9, 10] (bm 11 0) (by kernel_rfl) (by kernel_rfl) (by kernel_rfl) ?_
      refine RunU.sl hU 0 (bm 11 1) 34 (.slice A3 os.length c3) ?_
      refine RunU.sl hU 1 (bm 11 3) 35 (.int .i64 j) ?_
      refine RunU.sil hU false 2 (bm 11 7) 36 (.pointer (some ⟨b8, 0 + (j).toNat * 1, none⟩)) (0 ≤ j ∧ j < ((16 : Nat) : Int)) (by kernel_rfl) (by omega) (by kernel_rfl) (by kernel_rfl) (fun _ _ _ h => h) ?_
      refine RunU.rd 3 (bm 11 15) 37 (.load 53 (.tmp 36)) (.int .u32 (vs.getD ((j).toNat) 0)) [1, 3] (Reads.load_blknum hU 0 b8 (0 + (j).toNat * 1) 105 ((j).toNat) .u32 vs rfl (by kernel_rfl) (by kernel_rfl) (by omega) (by first | omega | (simp only [List.length_cons, List.length_nil]; omega))) ?_
      refine RunU.sl hU 4 (bm 11 31) 38 (.int .i64 j) ?_
      refine RunU.sil hU false 5 (bm 11 63) 39 (.pointer (some ⟨b6, 0 + (j).toNat * 1, none⟩)) (0 ≤ j ∧ j < ((16 : Nat) : Int)) (by kernel_rfl) (by omega) (by kernel_rfl) (by kernel_rfl) (fun _ _ _ h => h) ?_
      refine RunU.rd 6 (bm 11 127) 40 (.load 53 (.tmp 39)) (.int .u32 (zs3.getD ((j).toNat) 0)) [1, 3] (Reads.load_blknum hU 1 b6 (0 + (j).toNat * 1) 105 ((j).toNat) .u32 zs3 rfl (by kernel_rfl) (by kernel_rfl) (by omega) (by first | omega | (simp only [List.length_cons, List.length_nil]; omega))) ?_
      refine RunU.sl hU 7 (bm 11 255) 41 (.int .u32 (IntKind.wrap .u32 ((vs.getD ((j).toNat) 0) + (zs3.getD ((j).toNat) 0)))) ?_
      refine RunU.on (some 42) (.call { callee := .value (.func 63), args := #[.tmp 41], argTypes := #[53] }) 8 (bm 11 511) [] (Step.cn 63 [.int .u32 (IntKind.wrap .u32 ((vs.getD ((j).toNat) 0) + (zs3.getD ((j).toNat) 0)))] [] [row 5 1 (.slice A3 os.length c3) os.length (nums .u8 os), blk b8 105 (nums .u32 vs), blk b10 108 (nums .i64 ([0, 4, 8, 12, 1, 5, 9, 13, 2, 6, 10, 14, 3, 7, 11, 15, 0, 5, 10, 15, 1, 6, 11, 12, 2, 7, 8, 13, 3, 4, 9, 14] : List Int)), blk b6 105 (nums .u32 zs3), vw A (nums .u8 xs), vw A2 (nums .u8 ys)] (w_Put32_spec (IntKind.wrap .u32 ((vs.getD ((j).toNat) 0) + (zs3.getD ((j).toNat) 0))) (by first | assumption | exact fits_wrap _ _ | exact fits_bits2 _ _ _ _ | (refine ⟨?_, ?_⟩ <;> omega))) [] ?_)
      rintro _ _ ⟨Aq64, cq65, zs66, rfl, rfl, hp67, hp68, hp69, hp70, hp71⟩
      refine orR ?_
      refine RunU.on (some 43) (.call { callee := .builtin .append, args := #[.tmp 34, .tmp 42], argTypes := #[24, 24] }) 9 (bm 11 1023) [] (Step.append_nums hU 5 1 (.int .u8 0) .u8 1 0 A3 os.length c3 os Aq64 zs66.length cq65 (row 5 1 (.slice Aq64 zs66.length cq65) zs66.length (nums .u8 zs66)) zs66 rfl rfl rfl (by kernel_rfl) (by kernel_rfl) (by kernel_rfl) (by kernel_rfl) (tells_row _ _ _ _ _ _) (by first | rfl | omega | (simp; omega)) (by first | rfl | omega | (simp; omega)) (by omega) (by omega) (by kernel_rfl) (fun Aq72 cq73 hc74 hA75 => ?_))
      have hl76 : (os ++ zs66).length = os.length + zs66.length := List.length_append
      refine orR ?_
      refine RunU.sl hU 10 (bm 11 2047) 12 (.slice Aq72 ((os ++ zs66).length) cq73) ?_
      refine RunU.ev [6, 7, 8, 12, 31] [(6, .slice none 0 0), (7, pt b6), (8, pt b8), (12, .slice Aq72 ((os ++ zs66).length) cq73), (31, .int .i64 j)] ?_
      refine RunU.dn ?_
      refine kblock_n ?_
      refine kseq_n ?_
      refine RunC.region ?_
      refine RunR.sil hU [0] 2 2 [6, 7, 8, 12, 31] [(6, .slice none 0 0), (7, pt b6), (8, pt b8), (12, .slice Aq72 ((os ++ zs66).length) cq73), (31, .int .i64 (j + 1))] ((-9223372036854775808 ≤ (j + 1) ∧ (j + 1) < 9223372036854775808) ∧ (True) ∧ True) rfl (by kernel_rfl) ⟨(by omega), trivial, trivial⟩ ?_
      refine RunR.dn ?_
      refine kloop_n _ [6, 7, 8, 12, 31] [0, 1, 1, 1, 1, 1] [(6, .slice none 0 0), (7, pt b6), (8, pt b8), (12, .slice Aq72 ((os ++ zs66).length) cq73), (31, .int .i64 (j + 1))] [row 5 1 (.slice Aq72 ((os ++ zs66).length) cq73) ((os ++ zs66).length) (nums .u8 (os ++ zs66)), blk b8 105 (nums .u32 vs), blk b10 108 (nums .i64 ([0, 4, 8, 12, 1, 5, 9, 13, 2, 6, 10, 14, 3, 7, 11, 15, 0, 5, 10, 15, 1, 6, 11, 12, 2, 7, 8, 13, 3, 4, 9, 14] : List Int)), blk b6 105 (nums .u32 zs3), vw A (nums .u8 xs), vw A2 (nums .u8 ys)] (by kernel_rfl) (by kernel_rfl) ?_ ⟨(j + 1), (os ++ zs66), Aq72, cq73, (by first | assumption | omega | (simp only [List.length_append, List.length_cons, List.length_nil, List.length_set, List.length_replicate, List.length_take, List.length_drop]; omega) | (simp only [fits] at *; omega) | (simp only [List.length_append, List.length_cons, List.length_nil, List.length_set, List.length_replicate, List.length_take, List.length_drop] at *; omega) | (simp; done) | decide), (by first | assumption | omega | (simp only [List.length_append, List.length_cons, List.length_nil, List.length_set, List.length_replicate, List.length_take, List.length_drop]; omega) | (simp only [fits] at *; omega) | (simp only [List.length_append, List.length_cons, List.length_nil, List.length_set, List.length_replicate, List.length_take, List.length_drop] at *; omega) | (simp; done) | decide), (by rw [show (j + 1).toNat = j.toNat + 1 by omega, outs, ← ho]; simp only [hp4, hp67]; rfl), (by first | rfl | assumption | omega | (simp only [List.length_append, List.length_cons, List.length_nil, List.length_set, List.length_replicate, List.length_take, List.length_drop]; omega) | (simp; done)), (by (repeat first | assumption | (simp only [fits]; omega) | with_reducible first | exact fits_wrap _ _ | exact fits_bits2 _ _ _ _ | exact In.nil _ | exact In.sb _ | exact In.replicate _ _ | apply In.append | apply In.cons | apply In.set | apply In.take | apply In.drop | apply In.rev)), (by first | assumption | omega | (simp only [List.length_append, List.length_cons, List.length_nil, List.length_set, List.length_replicate, List.length_take, List.length_drop]; omega) | (simp only [fits] at *; omega) | (simp only [List.length_append, List.length_cons, List.length_nil, List.length_set, List.length_replicate, List.length_take, List.length_drop] at *; omega) | (simp; done) | decide), (fun h => hA75 (by first | exact h | (simp at h ⊢; omega))), rfl, (by first | rfl | simp only [List.length_set]), (by first | rfl | simp only [List.length_set])⟩
      show ((16 - (j + 1)).toNat : Nat) < ((16 - j).toNat : Nat)
      omega
    · skip
      refine RunC.exit ?_
      refine kseq_e ?_
      refine kloop_e ?_
      refine kblock_e ?_
      refine kseq_n ?_
      refine RunC.sr ?_
      refine RunR.sl hU [] 2 2 [6] [(6, .slice A3 os.length c3)] 2 ?_
      refine RunR.nn ?_
      refine RunC.ret ?_
      refine kret_r [.slice A3 os.length c3] [0] [row 5 1 (.slice A3 os.length c3) os.length (nums .u8 os)] ⟨rfl, trivial⟩ (by kernel_rfl) rfl ⟨A3, c3, os, rfl, rfl, (by rw [ho, hv, show j = 16 by omega, show i = 10 by omega]; simp only [hp4]; rfl), (by first | rfl | assumption | omega | (simp only [List.length_append, List.length_cons, List.length_nil, List.length_set, List.length_replicate, List.length_take, List.length_drop]; omega) | (simp; done)), hoi, (by first | assumption | omega | (simp only [List.length_append, List.length_cons, List.length_nil, List.length_set, List.length_replicate, List.length_take, List.length_drop]; omega) | (simp only [fits] at *; omega) | (simp only [List.length_append, List.length_cons, List.length_nil, List.length_set, List.length_replicate, List.length_take, List.length_drop] at *; omega) | (simp; done) | decide), (fun h => hA (by first | exact h | (simp at h ⊢; omega)))⟩
end Go.Proofs.Ytkehpipialmneaa.X4
