/- What these functions compute: a contract for each, walked through its code. -/
import Derived.Test.YtkehpipialmneaaSLzn
import Derived.Test.YtkehpipialmneaaBPure
import Derived.Test.YtkehpipialmneaaProg
import Derived.Test.YtkehpipialmneaaX1
import Derived.Test.YtkehpipialmneaaX2
import Derived.Test.YtkehpipialmneaaX3
import Derived.Test.YtkehpipialmneaaX4
import Derived.Test.YtkehpipialmneaaX5
import Derived.Test.YtkehpipialmneaaX6
import Derived.Test.YtkehpipialmneaaX7
import Derived.Test.YtkehpipialmneaaX8
namespace Go.Proofs.Ytkehpipialmneaa.X9
open Go Go.Proofs.Ytkehpipialmneaa.SL Go.Proofs.Ytkehpipialmneaa.SL.W Go.Proofs.Ytkehpipialmneaa.SL.C Go.Proofs.Ytkehpipialmneaa.SL.H Go.Proofs.Ytkehpipialmneaa.SL.M Go.Proofs.Ytkehpipialmneaa.SL.Y Go.Proofs.Ytkehpipialmneaa.SL.A Go.Proofs.Ytkehpipialmneaa.SL.B Go.Proofs.Ytkehpipialmneaa.X1 Go.Proofs.Ytkehpipialmneaa.X2 Go.Proofs.Ytkehpipialmneaa.X3 Go.Proofs.Ytkehpipialmneaa.X4 Go.Proofs.Ytkehpipialmneaa.X5 Go.Proofs.Ytkehpipialmneaa.X6 Go.Proofs.Ytkehpipialmneaa.X7 Go.Proofs.Ytkehpipialmneaa.X8
set_option linter.unusedVariables false
set_option linter.unusedSimpArgs false
set_option maxRecDepth 100000
set_option maxHeartbeats 40000000
def U : Tab where
  und := [(3, .int .i64), (5, .int .u8), (24, .slice 5), (73, .int .u64), (74, .array 5 73), (107, .array 4 3), (112, .array 3 3), (113, .array 5 73)]
  fld := []
  sz := [(3, 1), (5, 1), (24, 1), (73, 1), (74, 5), (107, 4), (112, 3), (113, 5)]
  ti := [(3, (1, 8, .int .i64 0)), (5, (1, 1, .int .u8 0)), (24, (1, 24, .slice none 0 0)), (73, (1, 8, .int .u64 0)), (74, (5, 40, z5)), (107, (4, 32, .agg #[.int .i64 0, .int .i64 0, .int .i64 0, .int .i64 0])), (112, (3, 24, .agg #[.int .i64 0, .int .i64 0, .int .i64 0])), (113, (5, 40, z5))]
  bld := []

theorem hU : U.OK Try.prog where
  und := by
    intro p hp
    simp only [U, List.mem_cons, List.not_mem_nil, or_false] at hp
    rcases hp with rfl | rfl | rfl | rfl | rfl | rfl | rfl | rfl
    · exact Try.underlying3
    · exact Try.underlying5
    · exact Try.underlying24
    · exact Try.underlying73
    · exact Try.underlying74
    · exact Try.underlying107
    · exact Try.underlying112
    · exact Try.underlying113
  fld := by
    intro p hp; cases hp
  sz := by
    intro p hp
    simp only [U, List.mem_cons, List.not_mem_nil, or_false] at hp
    rcases hp with rfl | rfl | rfl | rfl | rfl | rfl | rfl | rfl
    · exact ⟨Try.prog.types[3]!, by kernel_rfl, by kernel_rfl⟩
    · exact ⟨Try.prog.types[5]!, by kernel_rfl, by kernel_rfl⟩
    · exact ⟨Try.prog.types[24]!, by kernel_rfl, by kernel_rfl⟩
    · exact ⟨Try.prog.types[73]!, by kernel_rfl, by kernel_rfl⟩
    · exact ⟨Try.prog.types[74]!, by kernel_rfl, by kernel_rfl⟩
    · exact ⟨Try.prog.types[107]!, by kernel_rfl, by kernel_rfl⟩
    · exact ⟨Try.prog.types[112]!, by kernel_rfl, by kernel_rfl⟩
    · exact ⟨Try.prog.types[113]!, by kernel_rfl, by kernel_rfl⟩
  ti := by
    intro p hp
    simp only [U, List.mem_cons, List.not_mem_nil, or_false] at hp
    rcases hp with rfl | rfl | rfl | rfl | rfl | rfl | rfl | rfl
    · exact ⟨Try.prog.types[3]!, by kernel_rfl, by kernel_rfl, by kernel_rfl, by kernel_rfl⟩
    · exact ⟨Try.prog.types[5]!, by kernel_rfl, by kernel_rfl, by kernel_rfl, by kernel_rfl⟩
    · exact ⟨Try.prog.types[24]!, by kernel_rfl, by kernel_rfl, by kernel_rfl, by kernel_rfl⟩
    · exact ⟨Try.prog.types[73]!, by kernel_rfl, by kernel_rfl, by kernel_rfl, by kernel_rfl⟩
    · exact ⟨Try.prog.types[74]!, by kernel_rfl, by kernel_rfl, by kernel_rfl, by kernel_rfl⟩
    · exact ⟨Try.prog.types[107]!, by kernel_rfl, by kernel_rfl, by kernel_rfl, by kernel_rfl⟩
    · exact ⟨Try.prog.types[112]!, by kernel_rfl, by kernel_rfl, by kernel_rfl, by kernel_rfl⟩
    · exact ⟨Try.prog.types[113]!, by kernel_rfl, by kernel_rfl, by kernel_rfl, by kernel_rfl⟩
  bld := by
    intro p hp; cases hp
  mixed := by kernel_rfl

theorem y_Tag_spec (A : Option Addr) (c : Nat) (xs : List Int) (M : Option Addr) (d : Nat) (ys : List Int) (l_xs : Nat) (l_ys : Nat) (hx : In .u8 xs) (hn : xs.length ≤ 140737488351232) (hy : In .u8 ys) (hm : ys.length ≤ 140737488351232) (hlc : xs.length ≤ c) (hld : ys.length ≤ d) (hl_xs : xs.length = l_xs) (hl_ys : ys.length = l_ys) :
    CallsS Try.prog 45 [.slice A l_xs c, .slice M l_ys d] [vw A (nums .u8 xs), vw M (nums .u8 ys)] (fun r D => ∃ (A2 : Option Addr) (c2 : Nat) (zs : List Int) (e : Int), r = .tuple #[.slice A2 zs.length c2, .int .i64 e] ∧ D = [row 5 1 (.slice A2 zs.length c2) zs.length (nums .u8 zs)] ∧ (zs = tagL xs ys) ∧ (e = codeL xs) ∧ (In .u8 zs) ∧ (zs.length ≤ c2) ∧ (0 < zs.length → Option.isSome A2 = true)) := by
  subst hl_xs
  subst hl_ys
  refine CallsS.enter hU Try.f45 _ [.tmp 4, .tmp 5] 59 Try.func45 rfl (by decide) rfl rfl (by kernel_rfl) fun w0 W => ?_
  refine RunC.know (p := 0 < xs.length → Option.isSome A = true) (fun _ _ w hs => vw_some hs 0 rfl (by first | (simp [nums_length]; done) | exact dosV_len _ | exact bls_len _ | exact chV_len _)) (fun hA1 => ?_)
  refine RunC.know (p := 0 < ys.length → Option.isSome M = true) (fun _ _ w hs => vw_some hs 1 rfl (by first | (simp [nums_length]; done) | exact dosV_len _ | exact bls_len _ | exact chV_len _)) (fun hA2 => ?_)
  refine RunC.sr ?_
  refine RunR.sl hU [] 2 2 [0, 1, 4, 5] [(0, .slice A xs.length c), (1, .slice M ys.length d), (4, .slice none 0 0), (5, .int .i64 0)] 2 ?_
  refine RunR.nn ?_
  refine RunC.seq ?_
  refine RunC.sr ?_
  refine RunR.sl hU [] 3 3 [0, 1, 4, 5, 16] [(0, .slice A xs.length c), (1, .slice M ys.length d), (4, .slice none 0 0), (5, .int .i64 0), (16, .bool (!decide (((xs.length : Nat) : Int) = 32)))] 3 ?_
  refine RunR.nn ?_
  refine RunC.condn (((xs.length : Nat) : Int) = 32) (by kernel_rfl) (fun h3 => ?_) (fun h3 => ?_)
  · skip
    refine RunC.sr ?_
    refine RunR.sl hU [] 2 2 [0, 1, 4, 5] [(0, .slice A xs.length c), (1, .slice M ys.length d), (4, .slice none 0 0), (5, .int .i64 1)] 2 ?_
    refine RunR.nn ?_
    refine RunC.ret ?_
    refine kseq_r ?_
    refine kret_rt ([row 5 1 (.slice none 0 0) 0 (nums .u8 ([] : List Int)), vw A (nums .u8 xs), vw M (nums .u8 ys)]) (fun w0 W w hs => (hs).nil_row 5 1) [.slice none 0 0, .int .i64 1] [0] [row 5 1 (.slice none 0 0) 0 (nums .u8 ([] : List Int))] ⟨rfl, rfl, trivial⟩ (by kernel_rfl) rfl ⟨none, 0, ([] : List Int), 1, rfl, rfl, (by rw [tagL, if_neg (by omega)]), (by rw [codeL, if_neg (by omega)]), (by exact In.nil _), (by exact Nat.le_refl _), (by intro h; simp at h)⟩
  · skip
    refine RunC.ksr ?_
    refine RunR.sil hU [] 2 2 [0, 1, 4, 5, 18] [(0, .slice A xs.length c), (1, .slice M ys.length d), (4, .slice none 0 0), (5, .int .i64 0), (18, .slice A 16 c)] ((True) ∧ (0 ≤ (16 : Int) ∧ (16 : Int) ≤ ((c : Nat) : Int)) ∧ True) rfl (by kernel_rfl) ⟨trivial, (by omega), trivial⟩ ?_
    obtain ⟨zs4, hz5⟩ : ∃ z : List Int, z = xs.take 16 := ⟨_, rfl⟩
    have hl6 : zs4.length = 16 := by rw [hz5, List.length_take]; omega
    have hB7_t : Tells (vw A (nums .u8 xs)) (A) (nums .u8 zs4) := by rw [hz5]; exact tells_take_nums (tells_vw _ _) _
    refine RunR.ev [0, 1, 4, 5, 18] [(0, .slice A xs.length c), (1, .slice M ys.length d), (4, .slice none 0 0), (5, .int .i64 0), (18, .slice A 16 c)] ?_
    refine RunR.enveq [(0, .slice A xs.length c), (1, .slice M ys.length d), (4, .slice none 0 0), (5, .int .i64 0), (18, .slice A zs4.length c)] (by rw [hl6]) ?_
    have hr8 : In .u8 zs4 := by rw [hz5]; exact hx.take _
    refine RunR.st (some 19) (.call { callee := .value (.func 53), args := #[.tmp 18], argTypes := #[24] }) (Step.cl 53 [.slice A zs4.length c] [] [vw A (nums .u8 zs4)] [vw A (nums .u8 xs), vw M (nums .u8 ys)] (sl_Clone_spec A c zs4 zs4.length hr8 (by first | assumption | omega | (simp only [List.length_append, List.length_cons, List.length_nil, List.length_set, List.length_replicate, List.length_take, List.length_drop]; omega) | (simp only [fits] at *; omega) | (simp only [List.length_append, List.length_cons, List.length_nil, List.length_set, List.length_replicate, List.length_take, List.length_drop] at *; omega) | (simp; done) | decide) (by first | rfl | assumption | omega | (simp only [List.length_append, List.length_cons, List.length_nil, List.length_set, List.length_replicate, List.length_take, List.length_drop]; omega) | (simp; done))) [] ((Lend.nil _).tells 0 (vw A (nums .u8 xs)) A (nums .u8 zs4) (by kernel_rfl) (hB7_t)) ?_)
    rintro _ _ ⟨A29, c210, zs11, rfl, rfl, hp12, hp13, hp14, hp15, hp16⟩
    refine RunR.sl hU [] 1 4 [0, 1, 4, 5, 6] [(0, .slice A xs.length c), (1, .slice M ys.length d), (4, .slice none 0 0), (5, .int .i64 0), (6, .slice A29 zs11.length c210)] 1 ?_
    refine RunR.nn ?_
    refine RunC.seq ?_
    refine RunC.sr ?_
    refine RunR.sl hU [] 2 2 [0, 1, 4, 5, 6, 20, 21] [(0, .slice A xs.length c), (1, .slice M ys.length d), (4, .slice none 0 0), (5, .int .i64 0), (6, .slice A29 zs11.length c210), (20, .agg (nums .i64 ([3, 7, 11, 15] : List Int)).toArray), (21, .int .i64 0)] 2 ?_
    refine RunR.nn ?_
    refine RunC.block ?_
    refine RunC.env [0, 1, 4, 5, 6, 20, 21] [(0, .slice A xs.length c), (1, .slice M ys.length d), (4, .slice none 0 0), (5, .int .i64 0), (6, .slice A29 zs11.length c210), (20, .agg (nums .i64 ([3, 7, 11, 15] : List Int)).toArray), (21, .int .i64 0)] (by kernel_rfl) ?_
    refine RunC.only [0, 0, 0] [row 5 1 (.slice A29 zs11.length c210) zs11.length (nums .u8 zs11), vw A (nums .u8 xs), vw M (nums .u8 ys)] (by kernel_rfl) ?_
    refine RunC.loop (σ := Nat) (fun n_ t_ D_ => ∃ (j : Int) (fs : List Int), (0 ≤ j) ∧ (j ≤ 4) ∧ (fs = cA zs11 j.toNat) ∧ (In .u8 fs) ∧ (fs.length = 16) ∧ (Bnd 0 16 ([3, 7, 11, 15] : List Int)) ∧ n_ = ((4 - j).toNat : Nat) ∧ t_ = [(0, .slice A xs.length c), (1, .slice M ys.length d), (4, .slice none 0 0), (5, .int .i64 0), (6, .slice A29 zs11.length c210), (20, .agg (nums .i64 ([3, 7, 11, 15] : List Int)).toArray), (21, .int .i64 j)] ∧ D_ = [row 5 1 (.slice A29 zs11.length c210) zs11.length (nums .u8 fs), vw A (nums .u8 xs), vw M (nums .u8 ys)]) id _ ⟨0, zs11, (by first | assumption | omega | (simp only [List.length_append, List.length_cons, List.length_nil, List.length_set, List.length_replicate, List.length_take, List.length_drop]; omega) | (simp only [fits] at *; omega) | (simp only [List.length_append, List.length_cons, List.length_nil, List.length_set, List.length_replicate, List.length_take, List.length_drop] at *; omega) | (simp; done) | decide), (by first | assumption | omega | (simp only [List.length_append, List.length_cons, List.length_nil, List.length_set, List.length_replicate, List.length_take, List.length_drop]; omega) | (simp only [fits] at *; omega) | (simp only [List.length_append, List.length_cons, List.length_nil, List.length_set, List.length_replicate, List.length_take, List.length_drop] at *; omega) | (simp; done) | decide), (by rfl), hp14, (by first | assumption | omega), (by exact ⟨by decide, by decide, by decide⟩), rfl, rfl, rfl⟩ ?_
    rintro n_ _ _ ⟨j, fs, hkj, hknj, hfj, hfij, hflj, hbj, rfl, rfl, rfl⟩
    refine RunC.sr ?_
    refine RunR.sl hU [] 1 1 [0, 1, 4, 5, 6, 20, 21, 22] [(0, .slice A xs.length c), (1, .slice M ys.length d), (4, .slice none 0 0), (5, .int .i64 0), (6, .slice A29 zs11.length c210), (20, .agg (nums .i64 ([3, 7, 11, 15] : List Int)).toArray), (21, .int .i64 j), (22, .bool (decide (j < 4)))] 1 ?_
    refine RunR.nn ?_
    refine RunC.seq ?_
    refine RunC.condp (j < 4) (by kernel_rfl) (fun h17 => ?_) (fun h17 => ?_)
    · skip
      refine RunC.ks ?_
      refine RunC.seq ?_
      refine RunC.block ?_
      refine RunC.sr ?_
      refine RunR.sil hU [] 2 2 [0, 1, 4, 5, 6, 8, 20, 21] [(0, .slice A xs.length c), (1, .slice M ys.length d), (4, .slice none 0 0), (5, .int .i64 0), (6, .slice A29 zs11.length c210), (8, (nums .i64 ([3, 7, 11, 15] : List Int)).toArray.getD (j).toNat undef), (20, .agg (nums .i64 ([3, 7, 11, 15] : List Int)).toArray), (21, .int .i64 j)] (((0 ≤ j ∧ j < ((4 : Nat) : Int)) ∧ (j).toNat < (nums .i64 ([3, 7, 11, 15] : List Int)).toArray.size) ∧ (True) ∧ True) rfl (by kernel_rfl) ⟨(by (refine ⟨by omega, by simp only [List.size_toArray, nums_length, List.length_cons, List.length_nil]; omega⟩)), trivial, trivial⟩ ?_
      refine RunR.ev [0, 1, 4, 5, 6, 8, 20, 21] [(0, .slice A xs.length c), (1, .slice M ys.length d), (4, .slice none 0 0), (5, .int .i64 0), (6, .slice A29 zs11.length c210), (8, (nums .i64 ([3, 7, 11, 15] : List Int)).toArray.getD (j).toNat undef), (20, .agg (nums .i64 ([3, 7, 11, 15] : List Int)).toArray), (21, .int .i64 j)] ?_
      refine RunR.enveq [(0, .slice A xs.length c), (1, .slice M ys.length d), (4, .slice none 0 0), (5, .int .i64 0), (6, .slice A29 zs11.length c210), (8, .int .i64 (([3, 7, 11, 15] : List Int).getD (j).toNat 0)), (20, .agg (nums .i64 ([3, 7, 11, 15] : List Int)).toArray), (21, .int .i64 j)] (by rw [nums_getD _ _ _ (by first | omega | (simp only [List.length_cons, List.length_nil]; omega))]) ?_
      have hb18 : 0 ≤ ([3, 7, 11, 15] : List Int).getD ((j).toNat) 0 ∧ ([3, 7, 11, 15] : List Int).getD ((j).toNat) 0 < 16 := hbj.at_ _
      refine RunR.nn ?_
      refine RunC.region ?_
      refine RunR.sil hU [] 3 3 [0, 1, 4, 5, 6, 20, 21, 24, 25, 26] [(0, .slice A xs.length c), (1, .slice M ys.length d), (4, .slice none 0 0), (5, .int .i64 0), (6, .slice A29 zs11.length c210), (20, .agg (nums .i64 ([3, 7, 11, 15] : List Int)).toArray), (21, .int .i64 j), (24, .slice A29 zs11.length c210), (25, .int .i64 (([3, 7, 11, 15] : List Int).getD (j).toNat 0)), (26, .pointer (elemAt A29 (([3, 7, 11, 15] : List Int).getD (j).toNat 0) 1))] ((True) ∧ (True) ∧ ((0 ≤ (([3, 7, 11, 15] : List Int).getD (j).toNat 0) ∧ (([3, 7, 11, 15] : List Int).getD (j).toNat 0) < ((zs11.length : Nat) : Int)) ∧ Option.isSome A29 = true) ∧ True) rfl (by kernel_rfl) ⟨trivial, trivial, ⟨by omega, hp16 (by omega)⟩, trivial⟩ ?_
      refine RunR.st (some 27) (.load 5 (.tmp 26)) (Step.load_num hU 0 (row 5 1 (.slice A29 zs11.length c210) zs11.length (nums .u8 fs)) A29 (([3, 7, 11, 15] : List Int).getD (j).toNat 0) .u8 fs rfl (by kernel_rfl) (by kernel_rfl) (tells_row _ _ _ _ _ _) (by kernel_rfl) (by omega) ?_)
      have hb19 : 0 ≤ fs.getD ((([3, 7, 11, 15] : List Int).getD (j).toNat 0).toNat) 0 ∧ fs.getD ((([3, 7, 11, 15] : List Int).getD (j).toNat 0).toNat) 0 < 256 := hfij.at_ _
      have hm20 := and_le .u8 rfl (fs.getD (([3, 7, 11, 15] : List Int).getD (j).toNat 0).toNat 0) 15 (by decide) (by decide)
      refine RunR.sil hU [] 2 6 [0, 1, 4, 5, 6, 20, 21, 28, 29] [(0, .slice A xs.length c), (1, .slice M ys.length d), (4, .slice none 0 0), (5, .int .i64 0), (6, .slice A29 zs11.length c210), (20, .agg (nums .i64 ([3, 7, 11, 15] : List Int)).toArray), (21, .int .i64 j), (28, .int .u8 (bits2 .and .u8 (fs.getD (([3, 7, 11, 15] : List Int).getD (j).toNat 0).toNat 0) 15)), (29, .pointer (elemAt A29 (([3, 7, 11, 15] : List Int).getD (j).toNat 0) 1))] ((True) ∧ ((0 ≤ (([3, 7, 11, 15] : List Int).getD (j).toNat 0) ∧ (([3, 7, 11, 15] : List Int).getD (j).toNat 0) < ((zs11.length : Nat) : Int)) ∧ Option.isSome A29 = true) ∧ True) rfl (by kernel_rfl) ⟨trivial, ⟨by omega, hp16 (by omega)⟩, trivial⟩ ?_
      refine RunR.st none (.store 5 (.tmp 29) (.tmp 28)) (Step.store_num hU 0 5 zs11.length c210 A29 .u8 fs (([3, 7, 11, 15] : List Int).getD (j).toNat 0) (bits2 .and .u8 (fs.getD (([3, 7, 11, 15] : List Int).getD (j).toNat 0).toNat 0) 15) (by kernel_rfl) (by kernel_rfl) (by kernel_rfl) rfl (by omega) ?_)
      have hl21 : (fs.set (([3, 7, 11, 15] : List Int).getD (j).toNat 0).toNat (bits2 .and .u8 (fs.getD (([3, 7, 11, 15] : List Int).getD (j).toNat 0).toNat 0) 15)).length = fs.length := List.length_set
      refine RunR.dn ?_
      refine kblock_n ?_
      refine kseq_n ?_
      refine RunC.region ?_
      refine RunR.sil hU [0] 2 2 [0, 1, 4, 5, 6, 20, 21] [(0, .slice A xs.length c), (1, .slice M ys.length d), (4, .slice none 0 0), (5, .int .i64 0), (6, .slice A29 zs11.length c210), (20, .agg (nums .i64 ([3, 7, 11, 15] : List Int)).toArray), (21, .int .i64 (j + 1))] ((-9223372036854775808 ≤ (j + 1) ∧ (j + 1) < 9223372036854775808) ∧ (True) ∧ True) rfl (by kernel_rfl) ⟨(by omega), trivial, trivial⟩ ?_
      refine RunR.dn ?_
      refine kloop_n _ [0, 1, 4, 5, 6, 20, 21] [0, 0, 0] [(0, .slice A xs.length c), (1, .slice M ys.length d), (4, .slice none 0 0), (5, .int .i64 0), (6, .slice A29 zs11.length c210), (20, .agg (nums .i64 ([3, 7, 11, 15] : List Int)).toArray), (21, .int .i64 (j + 1))] [row 5 1 (.slice A29 zs11.length c210) zs11.length (nums .u8 (fs.set (([3, 7, 11, 15] : List Int).getD (j).toNat 0).toNat (bits2 .and .u8 (fs.getD (([3, 7, 11, 15] : List Int).getD (j).toNat 0).toNat 0) 15))), vw A (nums .u8 xs), vw M (nums .u8 ys)] (by kernel_rfl) (by kernel_rfl) ?_ ⟨(j + 1), (fs.set (([3, 7, 11, 15] : List Int).getD (j).toNat 0).toNat (bits2 .and .u8 (fs.getD (([3, 7, 11, 15] : List Int).getD (j).toNat 0).toNat 0) 15)), (by first | assumption | omega | (simp only [List.length_append, List.length_cons, List.length_nil, List.length_set, List.length_replicate, List.length_take, List.length_drop]; omega) | (simp only [fits] at *; omega) | (simp only [List.length_append, List.length_cons, List.length_nil, List.length_set, List.length_replicate, List.length_take, List.length_drop] at *; omega) | (simp; done) | decide), (by first | assumption | omega | (simp only [List.length_append, List.length_cons, List.length_nil, List.length_set, List.length_replicate, List.length_take, List.length_drop]; omega) | (simp only [fits] at *; omega) | (simp only [List.length_append, List.length_cons, List.length_nil, List.length_set, List.length_replicate, List.length_take, List.length_drop] at *; omega) | (simp; done) | decide), (by rw [hfj, show (j + 1).toNat = j.toNat + 1 by omega]; rfl), (by exact In.set hfij _ (fits_bits2 _ _ _ _)), (by rw [List.length_set]; exact hflj), (by first | assumption | omega | (simp only [List.length_append, List.length_cons, List.length_nil, List.length_set, List.length_replicate, List.length_take, List.length_drop]; omega) | (simp only [fits] at *; omega) | (simp only [List.length_append, List.length_cons, List.length_nil, List.length_set, List.length_replicate, List.length_take, List.length_drop] at *; omega) | (simp; done) | decide), rfl, (by first | rfl | simp only [List.length_set]), (by first | rfl | simp only [List.length_set])⟩
      show ((4 - (j + 1)).toNat : Nat) < ((4 - j).toNat : Nat)
      omega
    · skip
      refine RunC.exit ?_
      refine kseq_e ?_
      refine kloop_e ?_
      refine kblock_e ?_
      refine kseq_n ?_
      refine RunC.seq ?_
      refine RunC.sr ?_
      refine RunR.sl hU [] 2 2 [0, 1, 4, 5, 6, 31, 32] [(0, .slice A xs.length c), (1, .slice M ys.length d), (4, .slice none 0 0), (5, .int .i64 0), (6, .slice A29 zs11.length c210), (31, .agg (nums .i64 ([4, 8, 12] : List Int)).toArray), (32, .int .i64 0)] 2 ?_
      refine RunR.nn ?_
      refine RunC.block ?_
      refine RunC.env [0, 1, 4, 5, 6, 31, 32] [(0, .slice A xs.length c), (1, .slice M ys.length d), (4, .slice none 0 0), (5, .int .i64 0), (6, .slice A29 zs11.length c210), (31, .agg (nums .i64 ([4, 8, 12] : List Int)).toArray), (32, .int .i64 0)] (by kernel_rfl) ?_
      refine RunC.only [0, 0, 0] [row 5 1 (.slice A29 zs11.length c210) zs11.length (nums .u8 fs), vw A (nums .u8 xs), vw M (nums .u8 ys)] (by kernel_rfl) ?_
      refine RunC.loop (σ := Nat) (fun n_ t_ D_ => ∃ (k : Int) (gs : List Int), (0 ≤ k) ∧ (k ≤ 3) ∧ (gs = cB fs k.toNat) ∧ (In .u8 gs) ∧ (gs.length = 16) ∧ (Bnd 0 16 ([4, 8, 12] : List Int)) ∧ n_ = ((3 - k).toNat : Nat) ∧ t_ = [(0, .slice A xs.length c), (1, .slice M ys.length d), (4, .slice none 0 0), (5, .int .i64 0), (6, .slice A29 zs11.length c210), (31, .agg (nums .i64 ([4, 8, 12] : List Int)).toArray), (32, .int .i64 k)] ∧ D_ = [row 5 1 (.slice A29 zs11.length c210) zs11.length (nums .u8 gs), vw A (nums .u8 xs), vw M (nums .u8 ys)]) id _ ⟨0, fs, (by first | assumption | omega | (simp only [List.length_append, List.length_cons, List.length_nil, List.length_set, List.length_replicate, List.length_take, List.length_drop]; omega) | (simp only [fits] at *; omega) | (simp only [List.length_append, List.length_cons, List.length_nil, List.length_set, List.length_replicate, List.length_take, List.length_drop] at *; omega) | (simp; done) | decide), (by first | assumption | omega | (simp only [List.length_append, List.length_cons, List.length_nil, List.length_set, List.length_replicate, List.length_take, List.length_drop]; omega) | (simp only [fits] at *; omega) | (simp only [List.length_append, List.length_cons, List.length_nil, List.length_set, List.length_replicate, List.length_take, List.length_drop] at *; omega) | (simp; done) | decide), (by rfl), hfij, (by first | assumption | omega), (by exact ⟨by decide, by decide, by decide⟩), rfl, rfl, rfl⟩ ?_
      rintro n_ _ _ ⟨k, gs, hkk, hknk, hfk, hfik, hflk, hbk, rfl, rfl, rfl⟩
      refine RunC.sr ?_
      refine RunR.sl hU [] 1 1 [0, 1, 4, 5, 6, 31, 32, 33] [(0, .slice A xs.length c), (1, .slice M ys.length d), (4, .slice none 0 0), (5, .int .i64 0), (6, .slice A29 zs11.length c210), (31, .agg (nums .i64 ([4, 8, 12] : List Int)).toArray), (32, .int .i64 k), (33, .bool (decide (k < 3)))] 1 ?_
      refine RunR.nn ?_
      refine RunC.seq ?_
      refine RunC.condp (k < 3) (by kernel_rfl) (fun h22 => ?_) (fun h22 => ?_)
      · skip
        refine RunC.ks ?_
        refine RunC.seq ?_
        refine RunC.block ?_
        refine RunC.sr ?_
        refine RunR.sil hU [] 2 2 [0, 1, 4, 5, 6, 10, 31, 32] [(0, .slice A xs.length c), (1, .slice M ys.length d), (4, .slice none 0 0), (5, .int .i64 0), (6, .slice A29 zs11.length c210), (10, (nums .i64 ([4, 8, 12] : List Int)).toArray.getD (k).toNat undef), (31, .agg (nums .i64 ([4, 8, 12] : List Int)).toArray), (32, .int .i64 k)] (((0 ≤ k ∧ k < ((3 : Nat) : Int)) ∧ (k).toNat < (nums .i64 ([4, 8, 12] : List Int)).toArray.size) ∧ (True) ∧ True) rfl (by kernel_rfl) ⟨(by (refine ⟨by omega, by simp only [List.size_toArray, nums_length, List.length_cons, List.length_nil]; omega⟩)), trivial, trivial⟩ ?_
        refine RunR.ev [0, 1, 4, 5, 6, 10, 31, 32] [(0, .slice A xs.length c), (1, .slice M ys.length d), (4, .slice none 0 0), (5, .int .i64 0), (6, .slice A29 zs11.length c210), (10, (nums .i64 ([4, 8, 12] : List Int)).toArray.getD (k).toNat undef), (31, .agg (nums .i64 ([4, 8, 12] : List Int)).toArray), (32, .int .i64 k)] ?_
        refine RunR.enveq [(0, .slice A xs.length c), (1, .slice M ys.length d), (4, .slice none 0 0), (5, .int .i64 0), (6, .slice A29 zs11.length c210), (10, .int .i64 (([4, 8, 12] : List Int).getD (k).toNat 0)), (31, .agg (nums .i64 ([4, 8, 12] : List Int)).toArray), (32, .int .i64 k)] (by rw [nums_getD _ _ _ (by first | omega | (simp only [List.length_cons, List.length_nil]; omega))]) ?_
        have hb23 : 0 ≤ ([4, 8, 12] : List Int).getD ((k).toNat) 0 ∧ ([4, 8, 12] : List Int).getD ((k).toNat) 0 < 16 := hbk.at_ _
        refine RunR.nn ?_
        refine RunC.region ?_
        refine RunR.sil hU [] 3 3 [0, 1, 4, 5, 6, 31, 32, 35, 36, 37] [(0, .slice A xs.length c), (1, .slice M ys.length d), (4, .slice none 0 0), (5, .int .i64 0), (6, .slice A29 zs11.length c210), (31, .agg (nums .i64 ([4, 8, 12] : List Int)).toArray), (32, .int .i64 k), (35, .slice A29 zs11.length c210), (36, .int .i64 (([4, 8, 12] : List Int).getD (k).toNat 0)), (37, .pointer (elemAt A29 (([4, 8, 12] : List Int).getD (k).toNat 0) 1))] ((True) ∧ (True) ∧ ((0 ≤ (([4, 8, 12] : List Int).getD (k).toNat 0) ∧ (([4, 8, 12] : List Int).getD (k).toNat 0) < ((zs11.length : Nat) : Int)) ∧ Option.isSome A29 = true) ∧ True) rfl (by kernel_rfl) ⟨trivial, trivial, ⟨by omega, hp16 (by omega)⟩, trivial⟩ ?_
        refine RunR.st (some 38) (.load 5 (.tmp 37)) (Step.load_num hU 0 (row 5 1 (.slice A29 zs11.length c210) zs11.length (nums .u8 gs)) A29 (([4, 8, 12] : List Int).getD (k).toNat 0) .u8 gs rfl (by kernel_rfl) (by kernel_rfl) (tells_row _ _ _ _ _ _) (by kernel_rfl) (by omega) ?_)
        have hb24 : 0 ≤ gs.getD ((([4, 8, 12] : List Int).getD (k).toNat 0).toNat) 0 ∧ gs.getD ((([4, 8, 12] : List Int).getD (k).toNat 0).toNat) 0 < 256 := hfik.at_ _
        have hm25 := and_le .u8 rfl (gs.getD (([4, 8, 12] : List Int).getD (k).toNat 0).toNat 0) 252 (by decide) (by decide)
        refine RunR.sil hU [] 2 6 [0, 1, 4, 5, 6, 31, 32, 39, 40] [(0, .slice A xs.length c), (1, .slice M ys.length d), (4, .slice none 0 0), (5, .int .i64 0), (6, .slice A29 zs11.length c210), (31, .agg (nums .i64 ([4, 8, 12] : List Int)).toArray), (32, .int .i64 k), (39, .int .u8 (bits2 .and .u8 (gs.getD (([4, 8, 12] : List Int).getD (k).toNat 0).toNat 0) 252)), (40, .pointer (elemAt A29 (([4, 8, 12] : List Int).getD (k).toNat 0) 1))] ((True) ∧ ((0 ≤ (([4, 8, 12] : List Int).getD (k).toNat 0) ∧ (([4, 8, 12] : List Int).getD (k).toNat 0) < ((zs11.length : Nat) : Int)) ∧ Option.isSome A29 = true) ∧ True) rfl (by kernel_rfl) ⟨trivial, ⟨by omega, hp16 (by omega)⟩, trivial⟩ ?_
        refine RunR.st none (.store 5 (.tmp 40) (.tmp 39)) (Step.store_num hU 0 5 zs11.length c210 A29 .u8 gs (([4, 8, 12] : List Int).getD (k).toNat 0) (bits2 .and .u8 (gs.getD (([4, 8, 12] : List Int).getD (k).toNat 0).toNat 0) 252) (by kernel_rfl) (by kernel_rfl) (by kernel_rfl) rfl (by omega) ?_)
        have hl26 : (gs.set (([4, 8, 12] : List Int).getD (k).toNat 0).toNat (bits2 .and .u8 (gs.getD (([4, 8, 12] : List Int).getD (k).toNat 0).toNat 0) 252)).length = gs.length := List.length_set
        refine RunR.dn ?_
        refine kblock_n ?_
        refine kseq_n ?_
        refine RunC.region ?_
        refine RunR.sil hU [0] 2 2 [0, 1, 4, 5, 6, 31, 32] [(0, .slice A xs.length c), (1, .slice M ys.length d), (4, .slice none 0 0), (5, .int .i64 0), (6, .slice A29 zs11.length c210), (31, .agg (nums .i64 ([4, 8, 12] : List Int)).toArray), (32, .int .i64 (k + 1))] ((-9223372036854775808 ≤ (k + 1) ∧ (k + 1) < 9223372036854775808) ∧ (True) ∧ True) rfl (by kernel_rfl) ⟨(by omega), trivial, trivial⟩ ?_
        refine RunR.dn ?_
        refine kloop_n _ [0, 1, 4, 5, 6, 31, 32] [0, 0, 0] [(0, .slice A xs.length c), (1, .slice M ys.length d), (4, .slice none 0 0), (5, .int .i64 0), (6, .slice A29 zs11.length c210), (31, .agg (nums .i64 ([4, 8, 12] : List Int)).toArray), (32, .int .i64 (k + 1))] [row 5 1 (.slice A29 zs11.length c210) zs11.length (nums .u8 (gs.set (([4, 8, 12] : List Int).getD (k).toNat 0).toNat (bits2 .and .u8 (gs.getD (([4, 8, 12] : List Int).getD (k).toNat 0).toNat 0) 252))), vw A (nums .u8 xs), vw M (nums .u8 ys)] (by kernel_rfl) (by kernel_rfl) ?_ ⟨(k + 1), (gs.set (([4, 8, 12] : List Int).getD (k).toNat 0).toNat (bits2 .and .u8 (gs.getD (([4, 8, 12] : List Int).getD (k).toNat 0).toNat 0) 252)), (by first | assumption | omega | (simp only [List.length_append, List.length_cons, List.length_nil, List.length_set, List.length_replicate, List.length_take, List.length_drop]; omega) | (simp only [fits] at *; omega) | (simp only [List.length_append, List.length_cons, List.length_nil, List.length_set, List.length_replicate, List.length_take, List.length_drop] at *; omega) | (simp; done) | decide), (by first | assumption | omega | (simp only [List.length_append, List.length_cons, List.length_nil, List.length_set, List.length_replicate, List.length_take, List.length_drop]; omega) | (simp only [fits] at *; omega) | (simp only [List.length_append, List.length_cons, List.length_nil, List.length_set, List.length_replicate, List.length_take, List.length_drop] at *; omega) | (simp; done) | decide), (by rw [hfk, show (k + 1).toNat = k.toNat + 1 by omega]; rfl), (by exact In.set hfik _ (fits_bits2 _ _ _ _)), (by rw [List.length_set]; exact hflk), (by first | assumption | omega | (simp only [List.length_append, List.length_cons, List.length_nil, List.length_set, List.length_replicate, List.length_take, List.length_drop]; omega) | (simp only [fits] at *; omega) | (simp only [List.length_append, List.length_cons, List.length_nil, List.length_set, List.length_replicate, List.length_take, List.length_drop] at *; omega) | (simp; done) | decide), rfl, (by first | rfl | simp only [List.length_set]), (by first | rfl | simp only [List.length_set])⟩
        show ((3 - (k + 1)).toNat : Nat) < ((3 - k).toNat : Nat)
        omega
      · skip
        refine RunC.exit ?_
        refine kseq_e ?_
        refine kloop_e ?_
        refine kblock_e ?_
        refine kseq_n ?_
        refine RunC.sr ?_
        refine RunR.sl hU [] 1 1 [0, 1, 4, 5, 42] [(0, .slice A xs.length c), (1, .slice M ys.length d), (4, .slice none 0 0), (5, .int .i64 0), (42, .slice A29 zs11.length c210)] 1 ?_
        refine RunR.st (some 43) (.call { callee := .value (.func 65), args := #[.tmp 42], argTypes := #[24] }) (Step.cl 65 [.slice A29 zs11.length c210] [] [vw A29 (nums .u8 gs)] [row 5 1 (.slice A29 zs11.length c210) zs11.length (nums .u8 gs), vw A (nums .u8 xs), vw M (nums .u8 ys)] (y_load_spec A29 c210 gs zs11.length hfik (by first | assumption | omega | (simp only [List.length_append, List.length_cons, List.length_nil, List.length_set, List.length_replicate, List.length_take, List.length_drop]; omega) | (simp only [fits] at *; omega) | (simp only [List.length_append, List.length_cons, List.length_nil, List.length_set, List.length_replicate, List.length_take, List.length_drop] at *; omega) | (simp; done) | decide) (by first | assumption | omega | (simp only [List.length_append, List.length_cons, List.length_nil, List.length_set, List.length_replicate, List.length_take, List.length_drop]; omega) | (simp only [fits] at *; omega) | (simp only [List.length_append, List.length_cons, List.length_nil, List.length_set, List.length_replicate, List.length_take, List.length_drop] at *; omega) | (simp; done) | decide) (by first | assumption | omega | (simp only [List.length_append, List.length_cons, List.length_nil, List.length_set, List.length_replicate, List.length_take, List.length_drop]; omega) | (simp only [fits] at *; omega) | (simp only [List.length_append, List.length_cons, List.length_nil, List.length_set, List.length_replicate, List.length_take, List.length_drop] at *; omega) | (simp; done) | decide) (by first | rfl | assumption | omega | (simp only [List.length_append, List.length_cons, List.length_nil, List.length_set, List.length_replicate, List.length_take, List.length_drop]; omega) | (simp; done))) [] ((Lend.nil _).tells 0 (row 5 1 (.slice A29 zs11.length c210) zs11.length (nums .u8 gs)) A29 (nums .u8 gs) (by kernel_rfl) (tells_row _ _ _ _ _ _)) ?_)
        rintro _ _ ⟨zs27, rfl, rfl, hp28, hp29⟩
        refine RunR.st (some 11) (.alloc 113) (Step.al hU 5 40 z5 (fun b30 => ?_))
        have hl31 : (List.replicate 5 (0 : Int)).length = 5 := List.length_replicate
        refine RunR.st none (.store 113 (.tmp 11) (.tmp 43)) (Step.store_arr hU 0 b30 113 5 .u64 (List.replicate 5 (0 : Int)) zs27 (by kernel_rfl) (by kernel_rfl) (by kernel_rfl) (by kernel_rfl) (by first | rfl | omega | (simp; done)) (by first | rfl | omega | (simp; done)) ?_)
        refine RunR.nx ?_
        refine RunR.st (some 12) (.alloc 113) (Step.al hU 5 40 z5 (fun b32 => ?_))
        have hl33 : (List.replicate 5 (0 : Int)).length = 5 := List.length_replicate
        refine RunR.nn ?_
        refine RunC.seq ?_
        refine RunC.sr ?_
        refine RunR.sl hU [] 1 1 [0, 4, 5, 11, 12, 44] [(0, .slice A xs.length c), (4, .slice none 0 0), (5, .int .i64 0), (11, pt b30), (12, pt b32), (44, .slice M ys.length d)] 1 ?_
        refine RunR.st (some 45) (.call { callee := .value (.func 51), args := #[.tmp 44, .const (.int .i64 16)], argTypes := #[24, 3] }) (Step.cn 51 [.slice M ys.length d, .int .i64 16] [] [blk b32 113 (nums .u64 (List.replicate 5 (0 : Int))), blk b30 113 (nums .u64 zs27), row 5 1 (.slice A29 zs11.length c210) zs11.length (nums .u8 gs), vw A (nums .u8 xs), vw M (nums .u8 ys)] (sl_Chunk_spec M d ys.length) [] ?_)
        rintro _ _ ⟨b134, b235, rfl, rfl⟩
        refine RunR.nn ?_
        refine RunC.block ?_
        have hrr : limbs (leN gs 17) = limbs (rOf xs) := by rw [leN_17 hflk, hfk, hfj, show k.toNat = 3 by omega, show j.toNat = 4 by omega]; simp only [hz5, hp12, hp28]; rw [cAB hx (by omega)]; rfl
        refine RunC.env [0, 4, 5, 11, 12, 45] [(0, .slice A xs.length c), (4, .slice none 0 0), (5, .int .i64 0), (11, pt b30), (12, pt b32), (45, .func (.func 75) #[] #[pt b134, pt b235])] (by kernel_rfl) ?_
        refine RunC.rangeFunc (α := List Fact) (β := List Fact) 75 [pt b134, pt b235] (by kernel_rfl) ((ys.length + 15) / 16) (fun i_ => [.slice (subBase M (16 * i_) (16 * i_ + (chunk 16 ys i_).length) 1) ((chunk 16 ys i_).length) ((chunk 16 ys i_).length)]) (fun i_ => [vw (subBase M (16 * i_) (16 * i_ + (chunk 16 ys i_).length) 1) (nums .u8 (chunk 16 ys i_))]) [blk b134 24 [.slice M ys.length d], blk b235 3 [.int .i64 16]] [vw M (nums .u8 ys)] (sl_Chunk16_it M d ys b134 b235 hy (by first | assumption | omega | (simp only [List.length_append, List.length_cons, List.length_nil, List.length_set, List.length_replicate, List.length_take, List.length_drop]; omega) | (simp only [fits] at *; omega) | (simp only [List.length_append, List.length_cons, List.length_nil, List.length_set, List.length_replicate, List.length_take, List.length_drop] at *; omega) | (simp; done) | decide) (by first | assumption | omega | (simp only [List.length_append, List.length_cons, List.length_nil, List.length_set, List.length_replicate, List.length_take, List.length_drop]; omega) | (simp only [fits] at *; omega) | (simp only [List.length_append, List.length_cons, List.length_nil, List.length_set, List.length_replicate, List.length_take, List.length_drop] at *; omega) | (simp; done) | decide)) (fun i_ D_ => ∃ (ns : List Int), (PE ns (acc (rOf xs) ys i_)) ∧ (ns.length = 5) ∧ D_ = [blk b32 113 (nums .u64 ns), blk b30 113 (nums .u64 zs27), row 5 1 (.slice A29 zs11.length c210) zs11.length (nums .u8 gs)]) (fun D_ => D_) .ret (fun (_ : List Fact) => False) (fun D_ => D_) [vw A (nums .u8 xs), vw M (nums .u8 ys)] [vw A (nums .u8 xs), vw M (nums .u8 ys)] [blk b32 113 (nums .u64 (List.replicate 5 (0 : Int))), blk b30 113 (nums .u64 zs27), row 5 1 (.slice A29 zs11.length c210) zs11.length (nums .u8 gs)] ⟨(List.replicate 5 (0 : Int)), (by exact pe_zero), (by rfl), rfl⟩ [2, 2, 2, 0, 0] (by kernel_rfl) (((Lend.nil _).same 1 (vw M (nums .u8 ys)) (by kernel_rfl) rfl).same 0 (vw A (nums .u8 xs)) (by kernel_rfl) rfl) (fun f_ hf_ => by have := List.all_eq_true.1 (by rfl : List.all [vw A (nums .u8 xs), vw M (nums .u8 ys)] (fun g_ => !g_.own) = true) f_ hf_; simpa using this) ((Lend.nil _).tells 1 (vw M (nums .u8 ys)) M (nums .u8 ys) (by kernel_rfl) (tells_vw _ _)) (fun i_ D_ hp_ f_ hf_ => by obtain ⟨_, _, _, rfl⟩ := hp_; exact List.all_eq_true.1 (by rfl : List.all _ (·.own) = true) f_ hf_) (fun _ h => h.elim) (fun _ => rfl) (by rfl) ?_ ?_ (fun _ h => h.elim)
        · intro l_ R_ i_ _ hlt_ hp_
          obtain ⟨ns, hE, hnl, rfl⟩ := hp_
          refine RunC.env [0, 4, 5, 11, 12, 45, 46] [(0, .slice A xs.length c), (4, .slice none 0 0), (5, .int .i64 0), (11, pt b30), (12, pt b32), (45, .func (.func 75) #[] #[pt b134, pt b235]), (46, .slice (subBase M (16 * i_) (16 * i_ + (chunk 16 ys i_).length) 1) ((chunk 16 ys i_).length) ((chunk 16 ys i_).length))] (by kernel_rfl) ?_
          refine RunC.only [0, 0, 0, 0, 0, 0, 0] [objF l_ (.loop (R_ .ready none)), blk b32 113 (nums .u64 ns), blk b30 113 (nums .u64 zs27), row 5 1 (.slice A29 zs11.length c210) zs11.length (nums .u8 gs), vw A (nums .u8 xs), vw M (nums .u8 ys), vw (subBase M (16 * i_) (16 * i_ + (chunk 16 ys i_).length) 1) (nums .u8 (chunk 16 ys i_))] (by kernel_rfl) ?_
          have hck_ := chunk_len 16 ys i_
          have hev_ : In .u8 (chunk 16 ys i_) := chunk_in (by assumption) _
          refine RunC.region ?_
          refine RunR.sl hU [] 1 1 [11, 12, 13] [(11, pt b30), (12, pt b32), (13, .slice (subBase M (16 * i_) (16 * i_ + (chunk 16 ys i_).length) 1) ((chunk 16 ys i_).length) ((chunk 16 ys i_).length))] 1 ?_
          refine RunR.dn ?_
          refine kassign_n 0 (by kernel_rfl) ?_
          refine RunC.block ?_
          refine RunC.sr ?_
          refine RunR.sl hU [] 1 1 [11, 12, 47] [(11, pt b30), (12, pt b32), (47, .slice (subBase M (16 * i_) (16 * i_ + (chunk 16 ys i_).length) 1) ((chunk 16 ys i_).length) ((chunk 16 ys i_).length))] 1 ?_
          refine RunR.st (some 48) (.call { callee := .value (.func 53), args := #[.tmp 47], argTypes := #[24] }) (Step.cl 53 [.slice (subBase M (16 * i_) (16 * i_ + (chunk 16 ys i_).length) 1) ((chunk 16 ys i_).length) ((chunk 16 ys i_).length)] [] [vw (subBase M (16 * i_) (16 * i_ + (chunk 16 ys i_).length) 1) (nums .u8 (chunk 16 ys i_))] [objF l_ (.loop (R_ .busy none)), blk b32 113 (nums .u64 ns), blk b30 113 (nums .u64 zs27), row 5 1 (.slice A29 zs11.length c210) zs11.length (nums .u8 gs), vw A (nums .u8 xs), vw M (nums .u8 ys), vw (subBase M (16 * i_) (16 * i_ + (chunk 16 ys i_).length) 1) (nums .u8 (chunk 16 ys i_))] (sl_Clone_spec (subBase M (16 * i_) (16 * i_ + (chunk 16 ys i_).length) 1) ((chunk 16 ys i_).length) (chunk 16 ys i_) ((chunk 16 ys i_).length) hev_ (by first | assumption | omega | (simp only [List.length_append, List.length_cons, List.length_nil, List.length_set, List.length_replicate, List.length_take, List.length_drop]; omega) | (simp only [fits] at *; omega) | (simp only [List.length_append, List.length_cons, List.length_nil, List.length_set, List.length_replicate, List.length_take, List.length_drop] at *; omega) | (simp; done) | decide) (by first | rfl | assumption | omega | (simp only [List.length_append, List.length_cons, List.length_nil, List.length_set, List.length_replicate, List.length_take, List.length_drop]; omega) | (simp; done))) [] ((Lend.nil _).tells 6 (vw (subBase M (16 * i_) (16 * i_ + (chunk 16 ys i_).length) 1) (nums .u8 (chunk 16 ys i_))) (subBase M (16 * i_) (16 * i_ + (chunk 16 ys i_).length) 1) (nums .u8 (chunk 16 ys i_)) (by kernel_rfl) (tells_vw _ _)) ?_)
          rintro _ _ ⟨A236, c237, zs38, rfl, rfl, hp39, hp40, hp41, hp42, hp43⟩
          refine RunR.st (some 49) (.buildSlice 24 1 #[(0, .const (.int .u8 1))]) (Step.lit_nums hU 5 1 .u8 (.int .u8 0) ([1] : List Int) rfl rfl (by kernel_rfl) rfl rfl (by kernel_rfl) (fun b44 => ?_))
          have hl45 : (([1] : List Int)).length = 1 := rfl
          have hl50 : (([1] : List Int)).length = 1 := rfl
          refine RunR.st (some 50) (.call { callee := .builtin .append, args := #[.tmp 48, .tmp 49], argTypes := #[24, 24] }) (Step.append_nums hU 5 1 (.int .u8 0) .u8 1 0 A236 zs38.length c237 zs38 (some ⟨b44, 0, none⟩) 1 1 (row 5 1 (.slice (some ⟨b44, 0, none⟩) 1 1) 1 (nums .u8 ([1] : List Int))) ([1] : List Int) rfl rfl rfl (by kernel_rfl) (by kernel_rfl) (by kernel_rfl) (by kernel_rfl) (tells_row _ _ _ _ _ _) (by first | rfl | omega | (simp; omega)) (by first | rfl | omega | (simp; omega)) (by omega) (by omega) (by kernel_rfl) (fun Aq46 cq47 hc48 hA49 => ?_))
          have hl51 : (zs38 ++ ([1] : List Int)).length = zs38.length + ([1] : List Int).length := List.length_append
          simp only [List.length_cons, List.length_nil] at hl51
          refine RunR.st (some 51) (.call { callee := .value (.func 65), args := #[.tmp 50], argTypes := #[24] }) (Step.cl 65 [.slice Aq46 ((zs38 ++ ([1] : List Int)).length) cq47] [] [vw Aq46 (nums .u8 (zs38 ++ ([1] : List Int)))] [row 5 1 (.slice Aq46 ((zs38 ++ ([1] : List Int)).length) cq47) ((zs38 ++ ([1] : List Int)).length) (nums .u8 (zs38 ++ ([1] : List Int))), row 5 1 (.slice (some ⟨b44, 0, none⟩) 1 1) 1 (nums .u8 ([1] : List Int)), objF l_ (.loop (R_ .busy none)), blk b32 113 (nums .u64 ns), blk b30 113 (nums .u64 zs27), row 5 1 (.slice A29 zs11.length c210) zs11.length (nums .u8 gs), vw A (nums .u8 xs), vw M (nums .u8 ys), vw (subBase M (16 * i_) (16 * i_ + (chunk 16 ys i_).length) 1) (nums .u8 (chunk 16 ys i_))] (y_load_spec Aq46 cq47 (zs38 ++ ([1] : List Int)) ((zs38 ++ ([1] : List Int)).length) (by (repeat first | assumption | (simp only [fits]; omega) | with_reducible first | exact fits_wrap _ _ | exact fits_bits2 _ _ _ _ | exact In.nil _ | exact In.sb _ | exact In.replicate _ _ | apply In.append | apply In.cons | apply In.set | apply In.take | apply In.drop | apply In.rev)) (by first | assumption | omega | (simp only [List.length_append, List.length_cons, List.length_nil, List.length_set, List.length_replicate, List.length_take, List.length_drop]; omega) | (simp only [fits] at *; omega) | (simp only [List.length_append, List.length_cons, List.length_nil, List.length_set, List.length_replicate, List.length_take, List.length_drop] at *; omega) | (simp; done) | decide) (by first | assumption | omega | (simp only [List.length_append, List.length_cons, List.length_nil, List.length_set, List.length_replicate, List.length_take, List.length_drop]; omega) | (simp only [fits] at *; omega) | (simp only [List.length_append, List.length_cons, List.length_nil, List.length_set, List.length_replicate, List.length_take, List.length_drop] at *; omega) | (simp; done) | decide) (by first | assumption | omega | (simp only [List.length_append, List.length_cons, List.length_nil, List.length_set, List.length_replicate, List.length_take, List.length_drop]; omega) | (simp only [fits] at *; omega) | (simp only [List.length_append, List.length_cons, List.length_nil, List.length_set, List.length_replicate, List.length_take, List.length_drop] at *; omega) | (simp; done) | decide) (by first | rfl | assumption | omega | (simp only [List.length_append, List.length_cons, List.length_nil, List.length_set, List.length_replicate, List.length_take, List.length_drop]; omega) | (simp; done))) [] ((Lend.nil _).tells 0 (row 5 1 (.slice Aq46 ((zs38 ++ ([1] : List Int)).length) cq47) ((zs38 ++ ([1] : List Int)).length) (nums .u8 (zs38 ++ ([1] : List Int)))) Aq46 (nums .u8 (zs38 ++ ([1] : List Int))) (by kernel_rfl) (tells_row _ _ _ _ _ _)) ?_)
          rintro _ _ ⟨zs52, rfl, rfl, hp53, hp54⟩
          refine RunR.st (some 52) (.call { callee := .value (.func 66), args := #[.tmp 12, .tmp 51], argTypes := #[113, 113] }) (Step.cn 66 [pt b32, ag .u64 zs52] [blk b32 113 (nums .u64 ns)] [row 5 1 (.slice Aq46 ((zs38 ++ ([1] : List Int)).length) cq47) ((zs38 ++ ([1] : List Int)).length) (nums .u8 (zs38 ++ ([1] : List Int))), row 5 1 (.slice (some ⟨b44, 0, none⟩) 1 1) 1 (nums .u8 ([1] : List Int)), objF l_ (.loop (R_ .busy none)), blk b30 113 (nums .u64 zs27), row 5 1 (.slice A29 zs11.length c210) zs11.length (nums .u8 gs), vw A (nums .u8 xs), vw M (nums .u8 ys), vw (subBase M (16 * i_) (16 * i_ + (chunk 16 ys i_).length) 1) (nums .u8 (chunk 16 ys i_))] (y_add_spec b32 ns zs52 (by exact hE.lim.mono (by decide)) (by simp only [hz5, hp12, hp28, hp39, hp53]; exact (limbs_lim _).mono (by decide)) (by first | rfl | assumption | omega | (simp only [List.length_append, List.length_cons, List.length_nil, List.length_set, List.length_replicate, List.length_take, List.length_drop]; omega) | (simp; done)) (by first | rfl | assumption | omega | (simp only [List.length_append, List.length_cons, List.length_nil, List.length_set, List.length_replicate, List.length_take, List.length_drop]; omega) | (simp; done))) [3] ?_)
          rintro _ _ ⟨zs55, rfl, rfl, hp56, hp57⟩
          refine RunR.nn ?_
          refine RunC.region ?_
          refine RunR.st (some 53) (.load 113 (.tmp 11)) (Step.load_arr hU 4 b30 113 5 .u64 zs27 (by kernel_rfl) (by kernel_rfl) (by kernel_rfl) (by kernel_rfl) (by first | rfl | omega | (simp; done)) (by kernel_rfl) ?_)
          refine RunR.st (some 54) (.call { callee := .value (.func 67), args := #[.tmp 12, .tmp 53], argTypes := #[113, 113] }) (Step.cn 67 [pt b32, ag .u64 zs27] [blk b32 113 (nums .u64 zs55)] [row 5 1 (.slice Aq46 ((zs38 ++ ([1] : List Int)).length) cq47) ((zs38 ++ ([1] : List Int)).length) (nums .u8 (zs38 ++ ([1] : List Int))), row 5 1 (.slice (some ⟨b44, 0, none⟩) 1 1) 1 (nums .u8 ([1] : List Int)), objF l_ (.loop (R_ .busy none)), blk b30 113 (nums .u64 zs27), row 5 1 (.slice A29 zs11.length c210) zs11.length (nums .u8 gs), vw A (nums .u8 xs), vw M (nums .u8 ys), vw (subBase M (16 * i_) (16 * i_ + (chunk 16 ys i_).length) 1) (nums .u8 (chunk 16 ys i_))] (y_times_spec b32 zs55 ((acc (rOf xs) ys i_ + blkN (chunk 16 ys i_)) % Q) zs27 (rOf xs % Q) (by simp only [hz5, hp12, hp28, hp39, hp53, hp56]; exact (addP_end hE.lim (limbs_lim _)).1) (by simp only [hz5, hp12, hp28, hp39, hp53, hp56]; exact add_val hE (chunk_in hy _) (by omega)) (by simp only [hz5, hp12, hp28, hp39, hp53, hp56]; exact limbs_lim _) (by simp only [hz5, hp12, hp28, hp39, hp53, hp56, hrr]; exact r_val hx) (by first | rfl | assumption | omega | (simp only [List.length_append, List.length_cons, List.length_nil, List.length_set, List.length_replicate, List.length_take, List.length_drop]; omega) | (simp; done)) (by first | rfl | assumption | omega | (simp only [List.length_append, List.length_cons, List.length_nil, List.length_set, List.length_replicate, List.length_take, List.length_drop]; omega) | (simp; done))) [0] ?_)
          rintro _ _ ⟨zs58, rfl, rfl, hp59, hp60⟩
          refine RunR.dn ?_
          refine kblock_n ?_
          refine kyield_n _ [3, 0, 2, 2] [objF l_ (.loop (R_ .busy none)), blk b32 113 (nums .u64 zs58), blk b30 113 (nums .u64 zs27), row 5 1 (.slice A29 zs11.length c210) zs11.length (nums .u8 gs)] (by kernel_rfl) ⟨zs58, (by exact pe_cast (by assumption) (by rw [acc, ← Int.mul_emod])), (by first | rfl | assumption | omega | (simp only [List.length_append, List.length_cons, List.length_nil, List.length_set, List.length_replicate, List.length_take, List.length_drop]; omega) | (simp; done)), (by first | rfl | simp only [List.length_set])⟩ rfl
        · intro _ hp_
          obtain ⟨ns, hE, hnl, rfl⟩ := hp_
          refine kblock_n ?_
          refine kseq_n ?_
          refine RunC.sr ?_
          refine RunR.st (some 55) (.call { callee := .value (.func 68), args := #[.tmp 12], argTypes := #[113] }) (Step.cn 68 [pt b32] [blk b32 113 (nums .u64 ns)] [blk b30 113 (nums .u64 zs27), row 5 1 (.slice A29 zs11.length c210) zs11.length (nums .u8 gs), vw A (nums .u8 xs), vw M (nums .u8 ys)] (y_reduce_spec b32 ns (acc (rOf xs) ys ((ys.length + 15) / 16)) (by first | assumption | omega | (simp only [List.length_append, List.length_cons, List.length_nil, List.length_set, List.length_replicate, List.length_take, List.length_drop]; omega) | (simp only [fits] at *; omega) | (simp only [List.length_append, List.length_cons, List.length_nil, List.length_set, List.length_replicate, List.length_take, List.length_drop] at *; omega) | (simp; done) | decide) (by first | rfl | assumption | omega | (simp only [List.length_append, List.length_cons, List.length_nil, List.length_set, List.length_replicate, List.length_take, List.length_drop]; omega) | (simp; done))) [0] ?_)
          rintro _ _ ⟨zs61, rfl, rfl, hp62, hp63⟩
          refine RunR.nx ?_
          refine RunR.sil hU [] 2 2 [4, 5, 12, 57] [(4, .slice none 0 0), (5, .int .i64 0), (12, pt b32), (57, .slice (subBase A 16 c 1) (xs.length - 16) (c - 16))] ((True) ∧ (0 ≤ (16 : Int) ∧ (16 : Int) ≤ ((xs.length : Nat) : Int)) ∧ True) rfl (by kernel_rfl) ⟨trivial, (by omega), trivial⟩ ?_
          obtain ⟨zs64, hz65⟩ : ∃ z : List Int, z = (xs.drop 16).take (xs.length - 16) := ⟨_, rfl⟩
          have hl66 : zs64.length = xs.length - 16 := by rw [hz65, List.length_take, List.length_drop]; omega
          have hB68_t : Tells (vw A (nums .u8 xs)) (subBase A 16 c 1) (nums .u8 zs64) := by rw [hz65]; exact tells_sub_nums (tells_vw _ _) _ _ _ (by omega) (by omega)
          have hA69 : 0 < zs64.length → Option.isSome (subBase A 16 c 1) = true := fun h => part_some (hA1 (by omega)) _ _ _
          refine RunR.ev [4, 5, 12, 57] [(4, .slice none 0 0), (5, .int .i64 0), (12, pt b32), (57, .slice (subBase A 16 c 1) (xs.length - 16) (c - 16))] ?_
          refine RunR.enveq [(4, .slice none 0 0), (5, .int .i64 0), (12, pt b32), (57, .slice (subBase A 16 c 1) zs64.length (c - 16))] (by rw [hl66]) ?_
          have hr70 : In .u8 zs64 := by rw [hz65]; exact (hx.drop _).take _
          refine RunR.st (some 58) (.call { callee := .value (.func 69), args := #[.tmp 12, .tmp 57], argTypes := #[113, 24] }) (Step.cl 69 [pt b32, .slice (subBase A 16 c 1) zs64.length (c - 16)] [blk b32 113 (nums .u64 zs61)] [vw (subBase A 16 c 1) (nums .u8 zs64)] [blk b30 113 (nums .u64 zs27), row 5 1 (.slice A29 zs11.length c210) zs11.length (nums .u8 gs), vw A (nums .u8 xs), vw M (nums .u8 ys)] (y_bytes_spec b32 zs61 (acc (rOf xs) ys ((ys.length + 15) / 16)) (subBase A 16 c 1) (c - 16) zs64 zs64.length (by first | assumption | omega | (simp only [List.length_append, List.length_cons, List.length_nil, List.length_set, List.length_replicate, List.length_take, List.length_drop]; omega) | (simp only [fits] at *; omega) | (simp only [List.length_append, List.length_cons, List.length_nil, List.length_set, List.length_replicate, List.length_take, List.length_drop] at *; omega) | (simp; done) | decide) (by first | rfl | assumption | omega | (simp only [List.length_append, List.length_cons, List.length_nil, List.length_set, List.length_replicate, List.length_take, List.length_drop]; omega) | (simp; done)) hr70 (by first | assumption | omega | (simp only [List.length_append, List.length_cons, List.length_nil, List.length_set, List.length_replicate, List.length_take, List.length_drop]; omega) | (simp only [fits] at *; omega) | (simp only [List.length_append, List.length_cons, List.length_nil, List.length_set, List.length_replicate, List.length_take, List.length_drop] at *; omega) | (simp; done) | decide) (by first | assumption | omega | (simp only [List.length_append, List.length_cons, List.length_nil, List.length_set, List.length_replicate, List.length_take, List.length_drop]; omega) | (simp only [fits] at *; omega) | (simp only [List.length_append, List.length_cons, List.length_nil, List.length_set, List.length_replicate, List.length_take, List.length_drop] at *; omega) | (simp; done) | decide) (by first | assumption | omega | (simp only [List.length_append, List.length_cons, List.length_nil, List.length_set, List.length_replicate, List.length_take, List.length_drop]; omega) | (simp only [fits] at *; omega) | (simp only [List.length_append, List.length_cons, List.length_nil, List.length_set, List.length_replicate, List.length_take, List.length_drop] at *; omega) | (simp; done) | decide) (by first | rfl | assumption | omega | (simp only [List.length_append, List.length_cons, List.length_nil, List.length_set, List.length_replicate, List.length_take, List.length_drop]; omega) | (simp; done))) [0] ((Lend.nil _).tells 2 (vw A (nums .u8 xs)) (subBase A 16 c 1) (nums .u8 zs64) (by kernel_rfl) (hB68_t)) ?_)
          rintro _ _ ⟨A271, c272, zs73, rfl, rfl, hp74, hp75, hp76, hp77⟩
          refine RunR.sl hU [] 2 5 [4, 5] [(4, .slice A271 zs73.length c272), (5, .int .i64 0)] 2 ?_
          refine RunR.nn ?_
          refine RunC.ret ?_
          refine kret_r [.slice A271 zs73.length c272, .int .i64 0] [1] [row 5 1 (.slice A271 zs73.length c272) zs73.length (nums .u8 zs73)] ⟨rfl, rfl, trivial⟩ (by kernel_rfl) rfl ⟨A271, c272, zs73, 0, rfl, rfl, (by simp only [hz5, hp12, hp28, hz65, hp74]; rw [tagL, if_pos (by omega), tag_cut (by omega)]), (by rw [codeL, if_pos (by omega)]), (by assumption), (by assumption), (by assumption)⟩
end Go.Proofs.Ytkehpipialmneaa.X9
