/- What these functions compute: a contract for each, walked through its code. -/
import Derived.Test.YtjhinpmnpdgadaaDoorZPure
import Derived.Test.YtjhinpmnpdgadaaDoorProg
import Derived.Test.YtjhinpmnpdgadaaDoorX1
import Derived.Test.YtjhinpmnpdgadaaDoorX2
import Derived.Test.YtjhinpmnpdgadaaDoorX3
import Derived.Test.YtjhinpmnpdgadaaDoorX4
import Derived.Test.YtjhinpmnpdgadaaDoorX5
import Derived.Test.YtjhinpmnpdgadaaDoorX6
namespace Go.Proofs.YtjhinpmnpdgadaaDoor.X7
open Go Go.Proofs.YtjhinpmnpdgadaaDoor.SL Go.Proofs.YtjhinpmnpdgadaaDoor.SL.W Go.Proofs.YtjhinpmnpdgadaaDoor.SL.Z Go.Proofs.YtjhinpmnpdgadaaDoor.X1 Go.Proofs.YtjhinpmnpdgadaaDoor.X2 Go.Proofs.YtjhinpmnpdgadaaDoor.X3 Go.Proofs.YtjhinpmnpdgadaaDoor.X4 Go.Proofs.YtjhinpmnpdgadaaDoor.X5 Go.Proofs.YtjhinpmnpdgadaaDoor.X6
set_option linter.unusedVariables false
set_option linter.unusedSimpArgs false
set_option maxRecDepth 100000
set_option maxHeartbeats 40000000
def U : Tab where
  und := [(3, .int .i64), (5, .int .u8), (9, .string), (22, .slice 5), (33, .slice 9), (68, .pointer 70), (69, .struct #[{ name := "addr", type := 68, offset := 0, embedded := false, tag := "", pkgPath := "strings", byteOffset := 0 }, { name := "buf", type := 22, offset := 1, embedded := false, tag := "", pkgPath := "strings", byteOffset := 8 }]), (70, .struct #[{ name := "addr", type := 68, offset := 0, embedded := false, tag := "", pkgPath := "strings", byteOffset := 0 }, { name := "buf", type := 22, offset := 1, embedded := false, tag := "", pkgPath := "strings", byteOffset := 8 }])]
  fld := [((69, 0), (0, 68)), ((69, 1), (1, 22)), ((70, 0), (0, 68)), ((70, 1), (1, 22))]
  sz := [(3, 1), (5, 1), (9, 1), (22, 1), (33, 1), (68, 1), (69, 2), (70, 2)]
  ti := [(3, (1, 8, .int .i64 0)), (5, (1, 1, .int .u8 0)), (9, (1, 16, .string ⟨#[]⟩)), (22, (1, 24, .slice none 0 0)), (33, (1, 24, .slice none 0 0)), (68, (1, 8, .pointer none)), (69, (2, 32, .agg #[.pointer none, .slice none 0 0])), (70, (2, 32, .agg #[.pointer none, .slice none 0 0]))]
  bld := [(69, [(0, 1), (1, 1)]), (70, [(0, 1), (1, 1)])]

theorem hU : U.OK Tryd.prog where
  und := by
    intro p hp
    simp only [U, List.mem_cons, List.not_mem_nil, or_false] at hp
    rcases hp with rfl | rfl | rfl | rfl | rfl | rfl | rfl | rfl
    · exact Tryd.underlying3
    · exact Tryd.underlying5
    · exact Tryd.underlying9
    · exact Tryd.underlying22
    · exact Tryd.underlying33
    · exact Tryd.underlying68
    · exact Tryd.underlying69
    · exact Tryd.underlying70
  fld := by
    intro p hp
    simp only [U, List.mem_cons, List.not_mem_nil, or_false] at hp
    rcases hp with rfl | rfl | rfl | rfl
    · exact ⟨_, _, Tryd.underlying69, rfl, rfl, rfl, Tryd.prog.types[68]!, by kernel_rfl, by decide +kernel⟩
    · exact ⟨_, _, Tryd.underlying69, rfl, rfl, rfl, Tryd.prog.types[22]!, by kernel_rfl, by decide +kernel⟩
    · exact ⟨_, _, Tryd.underlying70, rfl, rfl, rfl, Tryd.prog.types[68]!, by kernel_rfl, by decide +kernel⟩
    · exact ⟨_, _, Tryd.underlying70, rfl, rfl, rfl, Tryd.prog.types[22]!, by kernel_rfl, by decide +kernel⟩
  sz := by
    intro p hp
    simp only [U, List.mem_cons, List.not_mem_nil, or_false] at hp
    rcases hp with rfl | rfl | rfl | rfl | rfl | rfl | rfl | rfl
    · exact ⟨Tryd.prog.types[3]!, by kernel_rfl, by kernel_rfl⟩
    · exact ⟨Tryd.prog.types[5]!, by kernel_rfl, by kernel_rfl⟩
    · exact ⟨Tryd.prog.types[9]!, by kernel_rfl, by kernel_rfl⟩
    · exact ⟨Tryd.prog.types[22]!, by kernel_rfl, by kernel_rfl⟩
    · exact ⟨Tryd.prog.types[33]!, by kernel_rfl, by kernel_rfl⟩
    · exact ⟨Tryd.prog.types[68]!, by kernel_rfl, by kernel_rfl⟩
    · exact ⟨Tryd.prog.types[69]!, by kernel_rfl, by kernel_rfl⟩
    · exact ⟨Tryd.prog.types[70]!, by kernel_rfl, by kernel_rfl⟩
  ti := by
    intro p hp
    simp only [U, List.mem_cons, List.not_mem_nil, or_false] at hp
    rcases hp with rfl | rfl | rfl | rfl | rfl | rfl | rfl | rfl
    · exact ⟨Tryd.prog.types[3]!, by kernel_rfl, by kernel_rfl, by kernel_rfl, by kernel_rfl⟩
    · exact ⟨Tryd.prog.types[5]!, by kernel_rfl, by kernel_rfl, by kernel_rfl, by kernel_rfl⟩
    · exact ⟨Tryd.prog.types[9]!, by kernel_rfl, by kernel_rfl, by kernel_rfl, by kernel_rfl⟩
    · exact ⟨Tryd.prog.types[22]!, by kernel_rfl, by kernel_rfl, by kernel_rfl, by kernel_rfl⟩
    · exact ⟨Tryd.prog.types[33]!, by kernel_rfl, by kernel_rfl, by kernel_rfl, by kernel_rfl⟩
    · exact ⟨Tryd.prog.types[68]!, by kernel_rfl, by kernel_rfl, by kernel_rfl, by kernel_rfl⟩
    · exact ⟨Tryd.prog.types[69]!, by kernel_rfl, by kernel_rfl, by kernel_rfl, by kernel_rfl⟩
    · exact ⟨Tryd.prog.types[70]!, by kernel_rfl, by kernel_rfl, by kernel_rfl, by kernel_rfl⟩
  bld := by
    intro p hp
    simp only [U, List.mem_cons, List.not_mem_nil, or_false] at hp
    rcases hp with rfl | rfl
    · exact ⟨_, Tryd.underlying69, by kernel_rfl⟩
    · exact ⟨_, Tryd.underlying70, by kernel_rfl⟩
  mixed := by kernel_rfl

theorem s_Join_spec (A8 : Option Addr) (c8 : Nat) (xs : List ByteArray) (l_xs : Nat) (hn : xs.length ≤ 32) (hM : MayAll xs) (hC : xs.length ≤ c8) (hl_xs : xs.length = l_xs) :
    CallsS Tryd.prog 35 [.slice A8 l_xs c8, .string (⟨#[47]⟩ : ByteArray)] [vw A8 (strV xs)] (fun r D => r = .string (joinS xs) ∧ D = []) := by
  subst hl_xs
  refine CallsS.enter hU Tryd.f35 _ [.tmp 4] 75 Tryd.func35 rfl (by decide) rfl rfl (by kernel_rfl) fun w0 W => ?_
  refine RunC.know (p := 0 < xs.length → Option.isSome A8 = true) (fun _ _ w hs => vw_some hs 0 rfl (by first | (simp [nums_length]; done) | exact dosV_len _ | exact bls_len _ | exact chV_len _ | exact strV_len _)) (fun hA1 => ?_)
  refine RunC.seq ?_
  refine RunC.region ?_
  refine RunR.sil hU [] 1 1 [0, 1, 4] [(0, .slice A8 xs.length c8), (1, .string (⟨#[47]⟩ : ByteArray)), (4, .string ⟨#[]⟩)] ((True) ∧ True) rfl (by kernel_rfl) ⟨trivial, trivial⟩ ?_
  refine RunR.done (by kernel_rfl) ?_
  refine kseq_n ?_
  refine RunC.seq ?_
  refine RunC.seq ?_
  refine RunC.region ?_
  refine RunR.sil hU [] 2 2 [0, 1, 4, 12] [(0, .slice A8 xs.length c8), (1, .string (⟨#[47]⟩ : ByteArray)), (4, .string ⟨#[]⟩), (12, .int .i64 ((xs.length : Nat) : Int))] ((True) ∧ (True) ∧ True) rfl (by kernel_rfl) ⟨trivial, trivial, trivial⟩ ?_
  refine RunR.done (by kernel_rfl) ?_
  refine kseq_n ?_
  refine RunC.block ?_
  refine RunC.seq ?_
  refine RunC.region ?_
  refine RunR.sil hU [] 2 2 [0, 1, 4, 12, 13] [(0, .slice A8 xs.length c8), (1, .string (⟨#[47]⟩ : ByteArray)), (4, .string ⟨#[]⟩), (12, .int .i64 ((xs.length : Nat) : Int)), (13, .bool (decide (((xs.length : Nat) : Int) = 0)))] ((True) ∧ (True) ∧ True) rfl (by kernel_rfl) ⟨trivial, trivial, trivial⟩ ?_
  refine RunR.done (by kernel_rfl) ?_
  refine kseq_n ?_
  refine RunC.condp (((xs.length : Nat) : Int) = 0) (by kernel_rfl) (fun h2 => ?_) (fun h2 => ?_)
  · skip
    refine RunC.seq ?_
    refine RunC.region ?_
    refine RunR.sil hU [] 1 1 [0, 1, 4] [(0, .slice A8 xs.length c8), (1, .string (⟨#[47]⟩ : ByteArray)), (4, .string ⟨#[]⟩)] ((True) ∧ True) rfl (by kernel_rfl) ⟨trivial, trivial⟩ ?_
    refine RunR.done (by kernel_rfl) ?_
    refine kseq_n ?_
    refine RunC.ret ?_
    refine kblock_r ?_
    refine kseq_r ?_
    refine kret_r [.string ⟨#[]⟩] [] [] ⟨rfl, trivial⟩ (by kernel_rfl) rfl ⟨(by first | rfl | (exact congrArg Value.string (join_nil (by assumption)))), (by first | rfl | (exact congrArg Value.string (join_nil (by assumption))))⟩
  · skip
    refine RunC.seq ?_
    refine RunC.region ?_
    refine RunR.sil hU [] 2 2 [0, 1, 4, 15] [(0, .slice A8 xs.length c8), (1, .string (⟨#[47]⟩ : ByteArray)), (4, .string ⟨#[]⟩), (15, .bool (decide (((xs.length : Nat) : Int) = 1)))] ((True) ∧ (True) ∧ True) rfl (by kernel_rfl) ⟨trivial, trivial, trivial⟩ ?_
    refine RunR.done (by kernel_rfl) ?_
    refine kseq_n ?_
    refine RunC.condp (((xs.length : Nat) : Int) = 1) (by kernel_rfl) (fun h3 => ?_) (fun h3 => ?_)
    · skip
      refine RunC.seq ?_
      refine RunC.region ?_
      refine RunR.sil hU [] 2 2 [0, 1, 4, 18] [(0, .slice A8 xs.length c8), (1, .string (⟨#[47]⟩ : ByteArray)), (4, .string ⟨#[]⟩), (18, .pointer (elemAt A8 0 1))] ((True) ∧ ((0 ≤ (0 : Int) ∧ (0 : Int) < ((xs.length : Nat) : Int)) ∧ Option.isSome A8 = true) ∧ True) rfl (by kernel_rfl) ⟨trivial, ⟨by omega, hA1 (by omega)⟩, trivial⟩ ?_
      refine RunR.step (dst := some 19) (op := .load 9 (.tmp 18)) (by kernel_rfl) (Step.load_of hU 0 (vw A8 (strV xs)) A8 0 1 (strV xs) (.string (xs.getD (0 : Int).toNat ByteArray.empty)) (by kernel_rfl) (by kernel_rfl) (tells_vw _ _) (loadv_str (by kernel_rfl) (by first | omega | (simp only [List.length_cons, List.length_nil]; omega))) (by kernel_rfl) (by rw [strV_len]; first | omega | (simp only [List.length_cons, List.length_nil]; omega)) ?_)
      refine RunR.sil hU [] 1 4 [0, 1, 4] [(0, .slice A8 xs.length c8), (1, .string (⟨#[47]⟩ : ByteArray)), (4, .string (xs.getD (0 : Int).toNat ByteArray.empty))] ((True) ∧ True) rfl (by kernel_rfl) ⟨trivial, trivial⟩ ?_
      refine RunR.done (by kernel_rfl) ?_
      refine kseq_n ?_
      refine RunC.ret ?_
      refine kblock_r ?_
      refine kseq_r ?_
      refine kret_r [.string (xs.getD (0 : Int).toNat ByteArray.empty)] [] [] ⟨rfl, trivial⟩ (by kernel_rfl) rfl ⟨(by first | rfl | (exact congrArg Value.string (join_one (by assumption)))), (by first | rfl | (exact congrArg Value.string (join_one (by assumption))))⟩
    · skip
      refine RunC.skip ?_
      refine kblock_n ?_
      refine kseq_n ?_
      refine RunC.seq ?_
      refine RunC.region ?_
      refine RunR.sil hU [] 1 1 [0, 1, 4, 5] [(0, .slice A8 xs.length c8), (1, .string (⟨#[47]⟩ : ByteArray)), (4, .string ⟨#[]⟩), (5, .int .i64 0)] ((True) ∧ True) rfl (by kernel_rfl) ⟨trivial, trivial⟩ ?_
      refine RunR.done (by kernel_rfl) ?_
      refine kseq_n ?_
      refine RunC.seq ?_
      refine RunC.seq ?_
      refine RunC.region ?_
      refine RunR.sil hU [] 3 3 [0, 1, 4, 5, 22] [(0, .slice A8 xs.length c8), (1, .string (⟨#[47]⟩ : ByteArray)), (4, .string ⟨#[]⟩), (5, .int .i64 0), (22, .bool true)] ((True) ∧ (True) ∧ (True) ∧ True) rfl (by kernel_rfl) ⟨trivial, trivial, trivial, trivial⟩ ?_
      refine RunR.done (by kernel_rfl) ?_
      refine kseq_n ?_
      refine RunC.cond (b := true) (by kernel_rfl) (fun _ => ?_) (fun h => by cases h)
      refine RunC.seq ?_
      refine RunC.seq ?_
      refine RunC.region ?_
      refine RunR.sil hU [4, 5] 7 7 [0, 1, 4, 5, 29] [(0, .slice A8 xs.length c8), (1, .string (⟨#[47]⟩ : ByteArray)), (4, .string ⟨#[]⟩), (5, .int .i64 0), (29, .bool (decide (1 ≥ (9223372036854775807 / (((xs.length : Nat) : Int) - 1)))))] ((True) ∧ (True) ∧ (True) ∧ (True) ∧ (-9223372036854775808 ≤ (((xs.length : Nat) : Int) - 1) ∧ (((xs.length : Nat) : Int) - 1) < 9223372036854775808) ∧ (0 ≤ (9223372036854775807 : Int) ∧ 0 < (((xs.length : Nat) : Int) - 1) ∧ -9223372036854775808 ≤ (9223372036854775807 / (((xs.length : Nat) : Int) - 1)) ∧ (9223372036854775807 / (((xs.length : Nat) : Int) - 1)) < 9223372036854775808) ∧ (True) ∧ True) rfl (by kernel_rfl) ⟨trivial, trivial, trivial, trivial, (by omega), (by exact quo_ok (by omega) (by omega)), trivial, trivial⟩ ?_
      refine RunR.env [0, 1, 4, 5, 29] [(0, .slice A8 xs.length c8), (1, .string (⟨#[47]⟩ : ByteArray)), (4, .string ⟨#[]⟩), (5, .int .i64 0), (29, .bool (decide (1 ≥ (9223372036854775807 / (((xs.length : Nat) : Int) - 1)))))] (by kernel_rfl) ?_
      have hk4 : ¬ (1 ≥ (9223372036854775807 / (((xs.length : Nat) : Int) - 1))) := by exact big_div (by omega) (by omega)
      refine RunR.enveq [(0, .slice A8 xs.length c8), (1, .string (⟨#[47]⟩ : ByteArray)), (4, .string ⟨#[]⟩), (5, .int .i64 0), (29, .bool false)] (by rw [decide_eq_false hk4]; try rfl) ?_
      refine RunR.done (by kernel_rfl) ?_
      refine kseq_n ?_
      refine RunC.cond (b := false) (by kernel_rfl) (fun h => by cases h) (fun _ => ?_)
      refine RunC.skip ?_
      refine kseq_n ?_
      refine RunC.region ?_
      refine RunR.sil hU [5, 6, 7] 9 9 [0, 1, 4, 5] [(0, .slice A8 xs.length c8), (1, .string (⟨#[47]⟩ : ByteArray)), (4, .string ⟨#[]⟩), (5, .int .i64 (0 + (1 * (((xs.length : Nat) : Int) - 1))))] ((True) ∧ (True) ∧ (True) ∧ (True) ∧ (True) ∧ (-9223372036854775808 ≤ (((xs.length : Nat) : Int) - 1) ∧ (((xs.length : Nat) : Int) - 1) < 9223372036854775808) ∧ (-9223372036854775808 ≤ (1 * (((xs.length : Nat) : Int) - 1)) ∧ (1 * (((xs.length : Nat) : Int) - 1)) < 9223372036854775808) ∧ (-9223372036854775808 ≤ (0 + (1 * (((xs.length : Nat) : Int) - 1))) ∧ (0 + (1 * (((xs.length : Nat) : Int) - 1))) < 9223372036854775808) ∧ (True) ∧ True) rfl (by kernel_rfl) ⟨trivial, trivial, trivial, trivial, trivial, (by omega), (by omega), (by omega), trivial, trivial⟩ ?_
      refine RunR.done (by kernel_rfl) ?_
      refine kseq_n ?_
      refine RunC.seq ?_
      refine RunC.seq ?_
      refine RunC.region ?_
      refine RunR.sil hU [] 3 3 [0, 1, 4, 5, 39, 40, 41] [(0, .slice A8 xs.length c8), (1, .string (⟨#[47]⟩ : ByteArray)), (4, .string ⟨#[]⟩), (5, .int .i64 (0 + (1 * (((xs.length : Nat) : Int) - 1)))), (39, .slice A8 xs.length c8), (40, .int .i64 ((xs.length : Nat) : Int)), (41, .int .i64 0)] ((True) ∧ (True) ∧ (True) ∧ True) rfl (by kernel_rfl) ⟨trivial, trivial, trivial, trivial⟩ ?_
      refine RunR.done (by kernel_rfl) ?_
      refine kseq_n ?_
      refine RunC.block ?_
      refine RunC.env [0, 1, 4, 5, 39, 40, 41] [(0, .slice A8 xs.length c8), (1, .string (⟨#[47]⟩ : ByteArray)), (4, .string ⟨#[]⟩), (5, .int .i64 (0 + (1 * (((xs.length : Nat) : Int) - 1)))), (39, .slice A8 xs.length c8), (40, .int .i64 ((xs.length : Nat) : Int)), (41, .int .i64 0)] (by kernel_rfl) ?_
      refine RunC.only [0] [vw A8 (strV xs)] (by kernel_rfl) ?_
      refine RunC.loop (σ := Nat) (fun n_ t_ D_ => ∃ (n : Int) (i : Int), (0 ≤ i ∧ i ≤ (xs.length : Int)) ∧ (0 ≤ n ∧ n ≤ 31 + 255 * i) ∧ n_ = ((xs.length - i).toNat : Nat) ∧ t_ = [(0, .slice A8 xs.length c8), (1, .string (⟨#[47]⟩ : ByteArray)), (4, .string ⟨#[]⟩), (5, .int .i64 n), (39, .slice A8 xs.length c8), (40, .int .i64 ((xs.length : Nat) : Int)), (41, .int .i64 i)] ∧ D_ = [vw A8 (strV xs)]) id _ ⟨(0 + (1 * (((xs.length : Nat) : Int) - 1))), 0, (by first | assumption | omega | (simp only [List.length_append, List.length_cons, List.length_nil, List.length_set, List.length_replicate, List.length_take, List.length_drop]; omega) | (simp only [fits] at *; omega) | (simp only [List.length_append, List.length_cons, List.length_nil, List.length_set, List.length_replicate, List.length_take, List.length_drop] at *; omega) | (simp; done) | decide), (by first | assumption | omega | (simp only [List.length_append, List.length_cons, List.length_nil, List.length_set, List.length_replicate, List.length_take, List.length_drop]; omega) | (simp only [fits] at *; omega) | (simp only [List.length_append, List.length_cons, List.length_nil, List.length_set, List.length_replicate, List.length_take, List.length_drop] at *; omega) | (simp; done) | decide), rfl, rfl, rfl⟩ ?_
      rintro n_ _ _ ⟨n, i, hi, hnn, rfl, rfl, rfl⟩
      refine RunC.seq ?_
      refine RunC.region ?_
      refine RunR.sil hU [] 1 1 [0, 1, 4, 5, 39, 40, 41, 42] [(0, .slice A8 xs.length c8), (1, .string (⟨#[47]⟩ : ByteArray)), (4, .string ⟨#[]⟩), (5, .int .i64 n), (39, .slice A8 xs.length c8), (40, .int .i64 ((xs.length : Nat) : Int)), (41, .int .i64 i), (42, .bool (decide (i < ((xs.length : Nat) : Int))))] ((True) ∧ True) rfl (by kernel_rfl) ⟨trivial, trivial⟩ ?_
      refine RunR.done (by kernel_rfl) ?_
      refine kseq_n ?_
      refine RunC.seq ?_
      refine RunC.condp (i < ((xs.length : Nat) : Int)) (by kernel_rfl) (fun h5 => ?_) (fun h5 => ?_)
      · skip
        refine RunC.skip ?_
        refine kseq_n ?_
        refine RunC.seq ?_
        refine RunC.block ?_
        refine RunC.seq ?_
        refine RunC.region ?_
        refine RunR.sil hU [] 1 1 [0, 1, 4, 5, 39, 40, 41, 43] [(0, .slice A8 xs.length c8), (1, .string (⟨#[47]⟩ : ByteArray)), (4, .string ⟨#[]⟩), (5, .int .i64 n), (39, .slice A8 xs.length c8), (40, .int .i64 ((xs.length : Nat) : Int)), (41, .int .i64 i), (43, .pointer (elemAt A8 i 1))] (((0 ≤ i ∧ i < ((xs.length : Nat) : Int)) ∧ Option.isSome A8 = true) ∧ True) rfl (by kernel_rfl) ⟨⟨by omega, hA1 (by omega)⟩, trivial⟩ ?_
        refine RunR.step (dst := some 44) (op := .load 9 (.tmp 43)) (by kernel_rfl) (Step.load_of hU 0 (vw A8 (strV xs)) A8 i 1 (strV xs) (.string (xs.getD (i).toNat ByteArray.empty)) (by kernel_rfl) (by kernel_rfl) (tells_vw _ _) (loadv_str (by kernel_rfl) (by first | omega | (simp only [List.length_cons, List.length_nil]; omega))) (by kernel_rfl) (by rw [strV_len]; first | omega | (simp only [List.length_cons, List.length_nil]; omega)) ?_)
        refine RunR.sil hU [] 1 3 [0, 1, 4, 5, 7, 39, 40, 41] [(0, .slice A8 xs.length c8), (1, .string (⟨#[47]⟩ : ByteArray)), (4, .string ⟨#[]⟩), (5, .int .i64 n), (7, .string (xs.getD (i).toNat ByteArray.empty)), (39, .slice A8 xs.length c8), (40, .int .i64 ((xs.length : Nat) : Int)), (41, .int .i64 i)] ((True) ∧ True) rfl (by kernel_rfl) ⟨trivial, trivial⟩ ?_
        refine RunR.done (by kernel_rfl) ?_
        refine kseq_n ?_
        refine RunC.seq ?_
        refine RunC.seq ?_
        refine RunC.region ?_
        refine RunR.sil hU [3] 5 5 [0, 1, 4, 5, 7, 39, 40, 41, 49] [(0, .slice A8 xs.length c8), (1, .string (⟨#[47]⟩ : ByteArray)), (4, .string ⟨#[]⟩), (5, .int .i64 n), (7, .string (xs.getD (i).toNat ByteArray.empty)), (39, .slice A8 xs.length c8), (40, .int .i64 ((xs.length : Nat) : Int)), (41, .int .i64 i), (49, .bool (decide (((xs.getD (i).toNat ByteArray.empty : ByteArray).size : Int) > (9223372036854775807 - n))))] ((True) ∧ (True) ∧ (True) ∧ (-9223372036854775808 ≤ (9223372036854775807 - n) ∧ (9223372036854775807 - n) < 9223372036854775808) ∧ (True) ∧ True) rfl (by kernel_rfl) ⟨trivial, trivial, trivial, (by omega), trivial, trivial⟩ ?_
        refine RunR.env [0, 1, 4, 5, 7, 39, 40, 41, 49] [(0, .slice A8 xs.length c8), (1, .string (⟨#[47]⟩ : ByteArray)), (4, .string ⟨#[]⟩), (5, .int .i64 n), (7, .string (xs.getD (i).toNat ByteArray.empty)), (39, .slice A8 xs.length c8), (40, .int .i64 ((xs.length : Nat) : Int)), (41, .int .i64 i), (49, .bool (decide (((xs.getD (i).toNat ByteArray.empty : ByteArray).size : Int) > (9223372036854775807 - n))))] (by kernel_rfl) ?_
        have hk6 : ¬ (((xs.getD (i).toNat ByteArray.empty : ByteArray).size : Int) > (9223372036854775807 - n)) := by have h_ := hM.le i.toNat; omega
        refine RunR.enveq [(0, .slice A8 xs.length c8), (1, .string (⟨#[47]⟩ : ByteArray)), (4, .string ⟨#[]⟩), (5, .int .i64 n), (7, .string (xs.getD (i).toNat ByteArray.empty)), (39, .slice A8 xs.length c8), (40, .int .i64 ((xs.length : Nat) : Int)), (41, .int .i64 i), (49, .bool false)] (by rw [decide_eq_false hk6]; try rfl) ?_
        refine RunR.done (by kernel_rfl) ?_
        refine kseq_n ?_
        refine RunC.cond (b := false) (by kernel_rfl) (fun h => by cases h) (fun _ => ?_)
        refine RunC.skip ?_
        refine kseq_n ?_
        refine RunC.region ?_
        refine RunR.sil hU [3] 5 5 [0, 1, 4, 5, 39, 40, 41] [(0, .slice A8 xs.length c8), (1, .string (⟨#[47]⟩ : ByteArray)), (4, .string ⟨#[]⟩), (5, .int .i64 (n + ((xs.getD (i).toNat ByteArray.empty : ByteArray).size : Int))), (39, .slice A8 xs.length c8), (40, .int .i64 ((xs.length : Nat) : Int)), (41, .int .i64 i)] ((True) ∧ (True) ∧ (True) ∧ (-9223372036854775808 ≤ (n + ((xs.getD (i).toNat ByteArray.empty : ByteArray).size : Int)) ∧ (n + ((xs.getD (i).toNat ByteArray.empty : ByteArray).size : Int)) < 9223372036854775808) ∧ (True) ∧ True) rfl (by kernel_rfl) ⟨trivial, trivial, trivial, (by omega), trivial, trivial⟩ ?_
        refine RunR.done (by kernel_rfl) ?_
        refine kblock_n ?_
        refine kseq_n ?_
        refine RunC.region ?_
        refine RunR.sil hU [0] 2 2 [0, 1, 4, 5, 39, 40, 41] [(0, .slice A8 xs.length c8), (1, .string (⟨#[47]⟩ : ByteArray)), (4, .string ⟨#[]⟩), (5, .int .i64 (n + ((xs.getD (i).toNat ByteArray.empty : ByteArray).size : Int))), (39, .slice A8 xs.length c8), (40, .int .i64 ((xs.length : Nat) : Int)), (41, .int .i64 (i + 1))] ((-9223372036854775808 ≤ (i + 1) ∧ (i + 1) < 9223372036854775808) ∧ (True) ∧ True) rfl (by kernel_rfl) ⟨(by omega), trivial, trivial⟩ ?_
        refine RunR.done (by kernel_rfl) ?_
        refine kloop_n _ [0, 1, 4, 5, 39, 40, 41] [0] [(0, .slice A8 xs.length c8), (1, .string (⟨#[47]⟩ : ByteArray)), (4, .string ⟨#[]⟩), (5, .int .i64 (n + ((xs.getD (i).toNat ByteArray.empty : ByteArray).size : Int))), (39, .slice A8 xs.length c8), (40, .int .i64 ((xs.length : Nat) : Int)), (41, .int .i64 (i + 1))] [vw A8 (strV xs)] (by kernel_rfl) (by kernel_rfl) ?_ ⟨(n + ((xs.getD (i).toNat ByteArray.empty : ByteArray).size : Int)), (i + 1), (by first | assumption | omega | (simp only [List.length_append, List.length_cons, List.length_nil, List.length_set, List.length_replicate, List.length_take, List.length_drop]; omega) | (simp only [fits] at *; omega) | (simp only [List.length_append, List.length_cons, List.length_nil, List.length_set, List.length_replicate, List.length_take, List.length_drop] at *; omega) | (simp; done) | decide), (by have h_ := hM.le i.toNat; omega), rfl, (by first | rfl | simp only [List.length_set]), (by first | rfl | simp only [List.length_set])⟩
        show ((xs.length - (i + 1)).toNat : Nat) < ((xs.length - i).toNat : Nat)
        omega
      · skip
        refine RunC.exit ?_
        refine kseq_e ?_
        refine kloop_e ?_
        refine kblock_e ?_
        refine kseq_n ?_
        refine RunC.seq ?_
        refine RunC.region ?_
        refine RunR.step (dst := some 8) (op := .alloc 70) (by kernel_rfl) (Step.alloc hU 2 32 (.agg #[.pointer none, .slice none 0 0]) rfl (by kernel_rfl) (fun b7 => ?_))
        refine RunR.done (by kernel_rfl) ?_
        refine kseq_n ?_
        refine RunC.seq ?_
        refine RunC.region ?_
        refine RunR.sil hU [] 1 1 [0, 1, 4, 8, 56] [(0, .slice A8 xs.length c8), (1, .string (⟨#[47]⟩ : ByteArray)), (4, .string ⟨#[]⟩), (8, .pointer (some ⟨b7, 0, none⟩)), (56, .int .i64 n)] ((True) ∧ True) rfl (by kernel_rfl) ⟨trivial, trivial⟩ ?_
        refine RunR.step (dst := some 57) (op := .call { callee := .value (.func 47), args := #[.tmp 8, .tmp 56], argTypes := #[70, 3] }) (by kernel_rfl) (Step.call 47 [.pointer (some ⟨b7, 0, none⟩), .int .i64 n] (by kernel_rfl) (by kernel_rfl) [blk b7 70 [.pointer none, .slice none 0 0]] [] [vw A8 (strV xs)] (b_Grow_spec b7 n (by first | assumption | omega | (simp only [List.length_append, List.length_cons, List.length_nil, List.length_set, List.length_replicate, List.length_take, List.length_drop]; omega) | (simp only [fits] at *; omega) | (simp only [List.length_append, List.length_cons, List.length_nil, List.length_set, List.length_replicate, List.length_take, List.length_drop] at *; omega) | (simp; done) | decide) (by first | assumption | omega | (simp only [List.length_append, List.length_cons, List.length_nil, List.length_set, List.length_replicate, List.length_take, List.length_drop]; omega) | (simp only [fits] at *; omega) | (simp only [List.length_append, List.length_cons, List.length_nil, List.length_set, List.length_replicate, List.length_take, List.length_drop] at *; omega) | (simp; done) | decide)) [0] (by kernel_rfl) (Lend.nil _) ?_)
        rintro _ _ ⟨A98, c99, rfl, rfl, hp10⟩
        refine RunR.done (by kernel_rfl) ?_
        refine kseq_n ?_
        refine RunC.seq ?_
        refine RunC.region ?_
        refine RunR.sil hU [] 2 2 [0, 1, 4, 8, 59] [(0, .slice A8 xs.length c8), (1, .string (⟨#[47]⟩ : ByteArray)), (4, .string ⟨#[]⟩), (8, .pointer (some ⟨b7, 0, none⟩)), (59, .pointer (elemAt A8 0 1))] ((True) ∧ ((0 ≤ (0 : Int) ∧ (0 : Int) < ((xs.length : Nat) : Int)) ∧ Option.isSome A8 = true) ∧ True) rfl (by kernel_rfl) ⟨trivial, ⟨by omega, hA1 (by omega)⟩, trivial⟩ ?_
        refine RunR.step (dst := some 60) (op := .load 9 (.tmp 59)) (by kernel_rfl) (Step.load_of hU 2 (vw A8 (strV xs)) A8 0 1 (strV xs) (.string (xs.getD (0 : Int).toNat ByteArray.empty)) (by kernel_rfl) (by kernel_rfl) (tells_vw _ _) (loadv_str (by kernel_rfl) (by first | omega | (simp only [List.length_cons, List.length_nil]; omega))) (by kernel_rfl) (by rw [strV_len]; first | omega | (simp only [List.length_cons, List.length_nil]; omega)) ?_)
        refine RunR.step (dst := some 61) (op := .call { callee := .value (.func 48), args := #[.tmp 8, .tmp 60], argTypes := #[70, 9] }) (by kernel_rfl) (Step.call 48 [.pointer (some ⟨b7, 0, none⟩), .string (xs.getD (0 : Int).toNat ByteArray.empty)] (by kernel_rfl) (by kernel_rfl) [blk b7 70 [.pointer (some ⟨b7, 0, none⟩), .slice A98 0 c99], row 5 1 (.slice A98 0 c99) 0 (nums .u8 ([] : List Int))] [] [vw A8 (strV xs)] (b_WriteString_spec b7 A98 c99 ([] : List Int) (xs.getD (0 : Int).toNat ByteArray.empty) (by (repeat first | assumption | (simp only [fits]; omega) | with_reducible first | exact fits_wrap _ _ | exact fits_bits2 _ _ _ _ | exact In.nil _ | exact In.sb _ | exact In.replicate _ _ | apply In.append | apply In.cons | apply In.set | apply In.take | apply In.drop | apply In.rev)) (by have h_ := hM.le (0 : Int).toNat; simp only [List.length_nil]; omega)) [0, 0] (by kernel_rfl) (Lend.nil _) ?_)
        rintro _ _ ⟨A911, c912, zs13, rfl, rfl, hp14, hp15, hp16, hp17⟩
        refine RunR.done (by kernel_rfl) ?_
        refine kseq_n ?_
        refine RunC.seq ?_
        refine RunC.seq ?_
        refine RunC.region ?_
        refine RunR.sil hU [] 2 2 [1, 4, 8, 63] [(1, .string (⟨#[47]⟩ : ByteArray)), (4, .string ⟨#[]⟩), (8, .pointer (some ⟨b7, 0, none⟩)), (63, .slice (subBase A8 1 c8 1) (xs.length - 1) (c8 - 1))] ((True) ∧ (0 ≤ (1 : Int) ∧ (1 : Int) ≤ ((xs.length : Nat) : Int)) ∧ True) rfl (by kernel_rfl) ⟨trivial, (by omega), trivial⟩ ?_
        obtain ⟨ss18, hz19⟩ : ∃ z : List ByteArray, z = (xs.drop 1).take (xs.length - 1) := ⟨_, rfl⟩
        have hl20 : ss18.length = xs.length - 1 := by rw [hz19, List.length_take, List.length_drop]; omega
        have hB21_t : Tells (vw A8 (strV xs)) (subBase A8 1 c8 1) (strV ss18) := by rw [hz19]; exact tells_sub_strs (tells_vw _ _) _ _ _ (by omega) (by omega)
        have hA22 : 0 < xs.length - 1 → Option.isSome (subBase A8 1 c8 1) = true := fun h => part_some (hA1 (by omega)) _ _ _
        refine RunR.sil hU [] 2 4 [1, 4, 8, 63, 64, 65] [(1, .string (⟨#[47]⟩ : ByteArray)), (4, .string ⟨#[]⟩), (8, .pointer (some ⟨b7, 0, none⟩)), (63, .slice (subBase A8 1 c8 1) (xs.length - 1) (c8 - 1)), (64, .int .i64 ((xs.length - 1 : Nat) : Int)), (65, .int .i64 0)] ((True) ∧ (True) ∧ True) rfl (by kernel_rfl) ⟨trivial, trivial, trivial⟩ ?_
        refine RunR.done (by kernel_rfl) ?_
        refine kseq_n ?_
        refine RunC.block ?_
        refine RunC.env [1, 4, 8, 63, 64, 65] [(1, .string (⟨#[47]⟩ : ByteArray)), (4, .string ⟨#[]⟩), (8, .pointer (some ⟨b7, 0, none⟩)), (63, .slice (subBase A8 1 c8 1) (xs.length - 1) (c8 - 1)), (64, .int .i64 ((xs.length - 1 : Nat) : Int)), (65, .int .i64 0)] (by kernel_rfl) ?_
        refine RunC.only [0, 0, 0] [blk b7 70 [.pointer (some ⟨b7, 0, none⟩), .slice A911 zs13.length c912], row 5 1 (.slice A911 zs13.length c912) zs13.length (nums .u8 zs13), vw A8 (strV xs)] (by kernel_rfl) ?_
        refine RunC.loop (σ := Nat) (fun n_ t_ D_ => ∃ (ws : List Int) (A5 : Option Addr) (c5 : Nat) (i : Int), (0 ≤ i ∧ i + 1 ≤ (xs.length : Int)) ∧ (ws = joinP ((xs.take (i.toNat + 1)).map sb)) ∧ (In .u8 ws) ∧ ((ws.length : Int) ≤ 256 * (i + 1)) ∧ (0 < ws.length) ∧ (Option.isSome A5 = true) ∧ (ws.length ≤ c5) ∧ n_ = ((xs.length - 1 - i).toNat : Nat) ∧ t_ = [(1, .string (⟨#[47]⟩ : ByteArray)), (4, .string ⟨#[]⟩), (8, .pointer (some ⟨b7, 0, none⟩)), (63, .slice (subBase A8 1 c8 1) (xs.length - 1) (c8 - 1)), (64, .int .i64 ((xs.length - 1 : Nat) : Int)), (65, .int .i64 i)] ∧ D_ = [blk b7 70 [.pointer (some ⟨b7, 0, none⟩), .slice A5 ws.length c5], row 5 1 (.slice A5 ws.length c5) ws.length (nums .u8 ws), vw A8 (strV xs)]) id _ ⟨zs13, A911, c912, 0, (by first | assumption | omega | (simp only [List.length_append, List.length_cons, List.length_nil, List.length_set, List.length_replicate, List.length_take, List.length_drop]; omega) | (simp only [fits] at *; omega) | (simp only [List.length_append, List.length_cons, List.length_nil, List.length_set, List.length_replicate, List.length_take, List.length_drop] at *; omega) | (simp; done) | decide), (by exact (write_first hM (by omega) hp14).1), hp15, (by exact (write_first hM (by omega) hp14).2.1), (by exact (write_first hM (by omega) hp14).2.2), (by exact hp16 (write_first hM (by omega) hp14).2.2), (by first | assumption | omega | (simp only [List.length_append, List.length_cons, List.length_nil, List.length_set, List.length_replicate, List.length_take, List.length_drop]; omega) | (simp only [fits] at *; omega) | (simp only [List.length_append, List.length_cons, List.length_nil, List.length_set, List.length_replicate, List.length_take, List.length_drop] at *; omega) | (simp; done) | decide), rfl, rfl, rfl⟩ ?_
        rintro n_ _ _ ⟨ws, A5, c5, i, hi, hw, hwi, hwl, hw0, hA5, hc5, rfl, rfl, rfl⟩
        refine RunC.seq ?_
        refine RunC.region ?_
        refine RunR.sil hU [] 1 1 [1, 4, 8, 63, 64, 65, 66] [(1, .string (⟨#[47]⟩ : ByteArray)), (4, .string ⟨#[]⟩), (8, .pointer (some ⟨b7, 0, none⟩)), (63, .slice (subBase A8 1 c8 1) (xs.length - 1) (c8 - 1)), (64, .int .i64 ((xs.length - 1 : Nat) : Int)), (65, .int .i64 i), (66, .bool (decide (i < ((xs.length - 1 : Nat) : Int))))] ((True) ∧ True) rfl (by kernel_rfl) ⟨trivial, trivial⟩ ?_
        refine RunR.done (by kernel_rfl) ?_
        refine kseq_n ?_
        refine RunC.seq ?_
        refine RunC.condp (i < ((xs.length - 1 : Nat) : Int)) (by kernel_rfl) (fun h23 => ?_) (fun h23 => ?_)
        · skip
          refine RunC.skip ?_
          refine kseq_n ?_
          refine RunC.seq ?_
          refine RunC.block ?_
          refine RunC.seq ?_
          refine RunC.region ?_
          refine RunR.sil hU [] 1 1 [1, 4, 8, 63, 64, 65, 67] [(1, .string (⟨#[47]⟩ : ByteArray)), (4, .string ⟨#[]⟩), (8, .pointer (some ⟨b7, 0, none⟩)), (63, .slice (subBase A8 1 c8 1) (xs.length - 1) (c8 - 1)), (64, .int .i64 ((xs.length - 1 : Nat) : Int)), (65, .int .i64 i), (67, .pointer (elemAt (subBase A8 1 c8 1) i 1))] (((0 ≤ i ∧ i < ((xs.length - 1 : Nat) : Int)) ∧ Option.isSome (subBase A8 1 c8 1) = true) ∧ True) rfl (by kernel_rfl) ⟨⟨by omega, hA22 (by omega)⟩, trivial⟩ ?_
          refine RunR.step (dst := some 68) (op := .load 9 (.tmp 67)) (by kernel_rfl) (Step.load_of hU 2 (vw A8 (strV xs)) (subBase A8 1 c8 1) i 1 (strV ss18) (.string (ss18.getD (i).toNat ByteArray.empty)) (by kernel_rfl) (by kernel_rfl) (hB21_t) (loadv_str (by kernel_rfl) (by first | omega | (simp only [List.length_cons, List.length_nil]; omega))) (by kernel_rfl) (by rw [strV_len]; first | omega | (simp only [List.length_cons, List.length_nil]; omega)) ?_)
          refine RunR.sil hU [] 1 3 [1, 4, 8, 10, 63, 64, 65] [(1, .string (⟨#[47]⟩ : ByteArray)), (4, .string ⟨#[]⟩), (8, .pointer (some ⟨b7, 0, none⟩)), (10, .string (ss18.getD (i).toNat ByteArray.empty)), (63, .slice (subBase A8 1 c8 1) (xs.length - 1) (c8 - 1)), (64, .int .i64 ((xs.length - 1 : Nat) : Int)), (65, .int .i64 i)] ((True) ∧ True) rfl (by kernel_rfl) ⟨trivial, trivial⟩ ?_
          refine RunR.done (by kernel_rfl) ?_
          refine kseq_n ?_
          refine RunC.seq ?_
          refine RunC.region ?_
          refine RunR.sil hU [] 1 1 [1, 4, 8, 10, 63, 64, 65, 69] [(1, .string (⟨#[47]⟩ : ByteArray)), (4, .string ⟨#[]⟩), (8, .pointer (some ⟨b7, 0, none⟩)), (10, .string (ss18.getD (i).toNat ByteArray.empty)), (63, .slice (subBase A8 1 c8 1) (xs.length - 1) (c8 - 1)), (64, .int .i64 ((xs.length - 1 : Nat) : Int)), (65, .int .i64 i), (69, .string (⟨#[47]⟩ : ByteArray))] ((True) ∧ True) rfl (by kernel_rfl) ⟨trivial, trivial⟩ ?_
          refine RunR.step (dst := some 70) (op := .call { callee := .value (.func 48), args := #[.tmp 8, .tmp 69], argTypes := #[70, 9] }) (by kernel_rfl) (Step.call 48 [.pointer (some ⟨b7, 0, none⟩), .string (⟨#[47]⟩ : ByteArray)] (by kernel_rfl) (by kernel_rfl) [blk b7 70 [.pointer (some ⟨b7, 0, none⟩), .slice A5 ws.length c5], row 5 1 (.slice A5 ws.length c5) ws.length (nums .u8 ws)] [] [vw A8 (strV xs)] (b_WriteString_spec b7 A5 c5 ws (⟨#[47]⟩ : ByteArray) hwi (by have h3_ : (⟨#[47]⟩ : ByteArray).size = 1 := rfl; omega)) [0, 0] (by kernel_rfl) (Lend.nil _) ?_)
          rintro _ _ ⟨A924, c925, zs26, rfl, rfl, hp27, hp28, hp29, hp30⟩
          refine RunR.done (by kernel_rfl) ?_
          refine kseq_n ?_
          refine RunC.region ?_
          refine RunR.sil hU [] 1 1 [1, 4, 8, 63, 64, 65, 71] [(1, .string (⟨#[47]⟩ : ByteArray)), (4, .string ⟨#[]⟩), (8, .pointer (some ⟨b7, 0, none⟩)), (63, .slice (subBase A8 1 c8 1) (xs.length - 1) (c8 - 1)), (64, .int .i64 ((xs.length - 1 : Nat) : Int)), (65, .int .i64 i), (71, .string (ss18.getD (i).toNat ByteArray.empty))] ((True) ∧ True) rfl (by kernel_rfl) ⟨trivial, trivial⟩ ?_
          refine RunR.step (dst := some 72) (op := .call { callee := .value (.func 48), args := #[.tmp 8, .tmp 71], argTypes := #[70, 9] }) (by kernel_rfl) (Step.call 48 [.pointer (some ⟨b7, 0, none⟩), .string (ss18.getD (i).toNat ByteArray.empty)] (by kernel_rfl) (by kernel_rfl) [blk b7 70 [.pointer (some ⟨b7, 0, none⟩), .slice A924 zs26.length c925], row 5 1 (.slice A924 zs26.length c925) zs26.length (nums .u8 zs26)] [] [vw A8 (strV xs)] (b_WriteString_spec b7 A924 c925 zs26 (ss18.getD (i).toNat ByteArray.empty) hp28 (by have h_ := (hM.tail hz19).le i.toNat; have h2_ := congrArg List.length hp27; rw [List.length_append] at h2_; have h3_ : (sb (⟨#[47]⟩ : ByteArray)).length = 1 := rfl; omega)) [0, 0] (by kernel_rfl) (Lend.nil _) ?_)
          rintro _ _ ⟨A931, c932, zs33, rfl, rfl, hp34, hp35, hp36, hp37⟩
          refine RunR.done (by kernel_rfl) ?_
          refine kblock_n ?_
          refine kseq_n ?_
          refine RunC.region ?_
          refine RunR.sil hU [0] 2 2 [1, 4, 8, 63, 64, 65] [(1, .string (⟨#[47]⟩ : ByteArray)), (4, .string ⟨#[]⟩), (8, .pointer (some ⟨b7, 0, none⟩)), (63, .slice (subBase A8 1 c8 1) (xs.length - 1) (c8 - 1)), (64, .int .i64 ((xs.length - 1 : Nat) : Int)), (65, .int .i64 (i + 1))] ((-9223372036854775808 ≤ (i + 1) ∧ (i + 1) < 9223372036854775808) ∧ (True) ∧ True) rfl (by kernel_rfl) ⟨(by omega), trivial, trivial⟩ ?_
          refine RunR.done (by kernel_rfl) ?_
          refine kloop_n _ [1, 4, 8, 63, 64, 65] [0, 0, 0] [(1, .string (⟨#[47]⟩ : ByteArray)), (4, .string ⟨#[]⟩), (8, .pointer (some ⟨b7, 0, none⟩)), (63, .slice (subBase A8 1 c8 1) (xs.length - 1) (c8 - 1)), (64, .int .i64 ((xs.length - 1 : Nat) : Int)), (65, .int .i64 (i + 1))] [blk b7 70 [.pointer (some ⟨b7, 0, none⟩), .slice A931 zs33.length c932], row 5 1 (.slice A931 zs33.length c932) zs33.length (nums .u8 zs33), vw A8 (strV xs)] (by kernel_rfl) (by kernel_rfl) ?_ ⟨zs33, A931, c932, (i + 1), (by first | assumption | omega | (simp only [List.length_append, List.length_cons, List.length_nil, List.length_set, List.length_replicate, List.length_take, List.length_drop]; omega) | (simp only [fits] at *; omega) | (simp only [List.length_append, List.length_cons, List.length_nil, List.length_set, List.length_replicate, List.length_take, List.length_drop] at *; omega) | (simp; done) | decide), (by exact (write_next hM hz19 (by omega) (by omega) (by omega) (by omega) hw hwl hp27 hp34).1), hp35, (by exact (write_next hM hz19 (by omega) (by omega) (by omega) (by omega) hw hwl hp27 hp34).2.1), (by exact (write_next hM hz19 (by omega) (by omega) (by omega) (by omega) hw hwl hp27 hp34).2.2), (by exact hp36 (write_next hM hz19 (by omega) (by omega) (by omega) (by omega) hw hwl hp27 hp34).2.2), (by first | assumption | omega | (simp only [List.length_append, List.length_cons, List.length_nil, List.length_set, List.length_replicate, List.length_take, List.length_drop]; omega) | (simp only [fits] at *; omega) | (simp only [List.length_append, List.length_cons, List.length_nil, List.length_set, List.length_replicate, List.length_take, List.length_drop] at *; omega) | (simp; done) | decide), rfl, (by first | rfl | simp only [List.length_set]), (by first | rfl | simp only [List.length_set])⟩
          show ((xs.length - 1 - (i + 1)).toNat : Nat) < ((xs.length - 1 - i).toNat : Nat)
          omega
        · skip
          refine RunC.exit ?_
          refine kseq_e ?_
          refine kloop_e ?_
          refine kblock_e ?_
          refine kseq_n ?_
          refine RunC.seq ?_
          refine RunC.region ?_
          refine RunR.step (dst := some 74) (op := .call { callee := .value (.func 49), args := #[.tmp 8], argTypes := #[70] }) (by kernel_rfl) (Step.call 49 [.pointer (some ⟨b7, 0, none⟩)] (by kernel_rfl) (by kernel_rfl) [blk b7 70 [.pointer (some ⟨b7, 0, none⟩), .slice A5 ws.length c5], row 5 1 (.slice A5 ws.length c5) ws.length (nums .u8 ws)] [] [vw A8 (strV xs)] (b_String_spec b7 A5 c5 ws hwi (by first | assumption | omega | (simp only [List.length_append, List.length_cons, List.length_nil, List.length_set, List.length_replicate, List.length_take, List.length_drop]; omega) | (simp only [fits] at *; omega) | (simp only [List.length_append, List.length_cons, List.length_nil, List.length_set, List.length_replicate, List.length_take, List.length_drop] at *; omega) | (simp; done) | decide) (by first | assumption | omega | (simp only [List.length_append, List.length_cons, List.length_nil, List.length_set, List.length_replicate, List.length_take, List.length_drop]; omega) | (simp only [fits] at *; omega) | (simp only [List.length_append, List.length_cons, List.length_nil, List.length_set, List.length_replicate, List.length_take, List.length_drop] at *; omega) | (simp; done) | decide) (by first | assumption | omega | (simp only [List.length_append, List.length_cons, List.length_nil, List.length_set, List.length_replicate, List.length_take, List.length_drop]; omega) | (simp only [fits] at *; omega) | (simp only [List.length_append, List.length_cons, List.length_nil, List.length_set, List.length_replicate, List.length_take, List.length_drop] at *; omega) | (simp; done) | decide)) [0, 0] (by kernel_rfl) (Lend.nil _) ?_)
          rintro _ _ ⟨rfl, rfl⟩
          refine RunR.sil hU [] 1 2 [4] [(4, .string (strOfNums ws))] ((True) ∧ True) rfl (by kernel_rfl) ⟨trivial, trivial⟩ ?_
          refine RunR.done (by kernel_rfl) ?_
          refine kseq_n ?_
          refine RunC.ret ?_
          refine kret_r [.string (strOfNums ws)] [] [] ⟨rfl, trivial⟩ (by kernel_rfl) rfl ⟨(by first | rfl | (exact congrArg Value.string (write_end hw (by omega)))), (by first | rfl | (exact congrArg Value.string (write_end hw (by omega))))⟩

theorem p_Join_spec (A8 : Option Addr) (c8 : Nat) (xs : List ByteArray) (l_xs : Nat) (hn : xs.length ≤ 32) (hM : MayAll xs) (hC : xs.length ≤ c8) (hl_xs : xs.length = l_xs) :
    CallsS Tryd.prog 21 [.slice A8 l_xs c8] [vw A8 (strV xs)] (fun r D => r = .string (joinS xs) ∧ D = []) := by
  subst hl_xs
  refine CallsS.enter hU Tryd.f21 _ [.tmp 2] 5 Tryd.func21 rfl (by decide) rfl rfl (by kernel_rfl) fun w0 W => ?_
  refine RunC.know (p := 0 < xs.length → Option.isSome A8 = true) (fun _ _ w hs => vw_some hs 0 rfl (by first | (simp [nums_length]; done) | exact dosV_len _ | exact bls_len _ | exact chV_len _ | exact strV_len _)) (fun hA1 => ?_)
  refine RunC.seq ?_
  refine RunC.region ?_
  refine RunR.sil hU [] 1 1 [0, 2] [(0, .slice A8 xs.length c8), (2, .string ⟨#[]⟩)] ((True) ∧ True) rfl (by kernel_rfl) ⟨trivial, trivial⟩ ?_
  refine RunR.done (by kernel_rfl) ?_
  refine kseq_n ?_
  refine RunC.seq ?_
  refine RunC.region ?_
  refine RunR.sil hU [] 1 1 [2, 3] [(2, .string ⟨#[]⟩), (3, .slice A8 xs.length c8)] ((True) ∧ True) rfl (by kernel_rfl) ⟨trivial, trivial⟩ ?_
  refine RunR.step (dst := some 4) (op := .call { callee := .value (.func 35), args := #[.tmp 3, .const (.string ⟨#[47]⟩)], argTypes := #[33, 9] }) (by kernel_rfl) (Step.call 35 [.slice A8 xs.length c8, .string ⟨#[47]⟩] (by kernel_rfl) (by kernel_rfl) [] [vw A8 (strV xs)] [vw A8 (strV xs)] (s_Join_spec A8 c8 xs xs.length (by first | assumption | omega | (simp only [List.length_append, List.length_cons, List.length_nil, List.length_set, List.length_replicate, List.length_take, List.length_drop]; omega) | (simp only [fits] at *; omega) | (simp only [List.length_append, List.length_cons, List.length_nil, List.length_set, List.length_replicate, List.length_take, List.length_drop] at *; omega) | (simp; done) | decide) (by first | assumption | omega | (simp only [List.length_append, List.length_cons, List.length_nil, List.length_set, List.length_replicate, List.length_take, List.length_drop]; omega) | (simp only [fits] at *; omega) | (simp only [List.length_append, List.length_cons, List.length_nil, List.length_set, List.length_replicate, List.length_take, List.length_drop] at *; omega) | (simp; done) | decide) (by first | assumption | omega | (simp only [List.length_append, List.length_cons, List.length_nil, List.length_set, List.length_replicate, List.length_take, List.length_drop]; omega) | (simp only [fits] at *; omega) | (simp only [List.length_append, List.length_cons, List.length_nil, List.length_set, List.length_replicate, List.length_take, List.length_drop] at *; omega) | (simp; done) | decide) (by first | rfl | assumption | omega | (simp only [List.length_append, List.length_cons, List.length_nil, List.length_set, List.length_replicate, List.length_take, List.length_drop]; omega) | (simp; done))) [] (by kernel_rfl) ((Lend.nil _).tells 0 (vw A8 (strV xs)) A8 (strV xs) (by kernel_rfl) (tells_vw _ _)) ?_)
  rintro _ _ ⟨rfl, rfl⟩
  refine RunR.sil hU [] 1 3 [2] [(2, .string (joinS xs))] ((True) ∧ True) rfl (by kernel_rfl) ⟨trivial, trivial⟩ ?_
  refine RunR.done (by kernel_rfl) ?_
  refine kseq_n ?_
  refine RunC.ret ?_
  refine kret_r [.string (joinS xs)] [] [] ⟨rfl, trivial⟩ (by kernel_rfl) rfl ⟨rfl, rfl⟩

theorem pr_Join_spec (A8 : Option Addr) (c8 : Nat) (xs : List ByteArray) (l_xs : Nat) (hn : xs.length ≤ 32) (hM : MayAll xs) (hC : xs.length ≤ c8) (hl_xs : xs.length = l_xs) :
    CallsS Tryd.prog 22 [.slice A8 l_xs c8] [vw A8 (strV xs)] (fun r D => r = .string (joinS xs) ∧ D = []) := by
  subst hl_xs
  refine CallsS.enter hU Tryd.f22 _ [.tmp 2] 22 Tryd.func22 rfl (by decide) rfl rfl (by kernel_rfl) fun w0 W => ?_
  refine RunC.know (p := 0 < xs.length → Option.isSome A8 = true) (fun _ _ w hs => vw_some hs 0 rfl (by first | (simp [nums_length]; done) | exact dosV_len _ | exact bls_len _ | exact chV_len _ | exact strV_len _)) (fun hA1 => ?_)
  refine RunC.seq ?_
  refine RunC.region ?_
  refine RunR.sil hU [] 1 1 [0, 2] [(0, .slice A8 xs.length c8), (2, .string ⟨#[]⟩)] ((True) ∧ True) rfl (by kernel_rfl) ⟨trivial, trivial⟩ ?_
  refine RunR.done (by kernel_rfl) ?_
  refine kseq_n ?_
  refine RunC.seq ?_
  refine RunC.region ?_
  refine RunR.sil hU [] 1 1 [0, 2, 3] [(0, .slice A8 xs.length c8), (2, .string ⟨#[]⟩), (3, .string ⟨#[]⟩)] ((True) ∧ True) rfl (by kernel_rfl) ⟨trivial, trivial⟩ ?_
  refine RunR.done (by kernel_rfl) ?_
  refine kseq_n ?_
  refine RunC.seq ?_
  refine RunC.seq ?_
  refine RunC.region ?_
  refine RunR.sil hU [] 1 1 [0, 2, 3, 4] [(0, .slice A8 xs.length c8), (2, .string ⟨#[]⟩), (3, .string ⟨#[]⟩), (4, .int .i64 0)] ((True) ∧ True) rfl (by kernel_rfl) ⟨trivial, trivial⟩ ?_
  refine RunR.done (by kernel_rfl) ?_
  refine kseq_n ?_
  refine RunC.block ?_
  refine RunC.env [0, 2, 3, 4] [(0, .slice A8 xs.length c8), (2, .string ⟨#[]⟩), (3, .string ⟨#[]⟩), (4, .int .i64 0)] (by kernel_rfl) ?_
  refine RunC.only [0] [vw A8 (strV xs)] (by kernel_rfl) ?_
  refine RunC.loop (σ := Nat) (fun n_ t_ D_ => ∃ (t : ByteArray) (i : Int), (0 ≤ i ∧ i ≤ (xs.length : Int)) ∧ (t = joinS (xs.take i.toNat)) ∧ (((t : ByteArray).size : Int) ≤ 256 * i) ∧ n_ = ((xs.length - i).toNat : Nat) ∧ t_ = [(0, .slice A8 xs.length c8), (2, .string ⟨#[]⟩), (3, .string t), (4, .int .i64 i)] ∧ D_ = [vw A8 (strV xs)]) id _ ⟨⟨#[]⟩, 0, (by first | assumption | omega | (simp only [List.length_append, List.length_cons, List.length_nil, List.length_set, List.length_replicate, List.length_take, List.length_drop]; omega) | (simp only [fits] at *; omega) | (simp only [List.length_append, List.length_cons, List.length_nil, List.length_set, List.length_replicate, List.length_take, List.length_drop] at *; omega) | (simp; done) | decide), (by rfl), (by exact Int.le_refl _), rfl, rfl, rfl⟩ ?_
  rintro n_ _ _ ⟨t, i, hi, ht, hts, rfl, rfl, rfl⟩
  refine RunC.seq ?_
  refine RunC.seq ?_
  refine RunC.region ?_
  refine RunR.sil hU [] 4 4 [0, 2, 3, 4, 8] [(0, .slice A8 xs.length c8), (2, .string ⟨#[]⟩), (3, .string t), (4, .int .i64 i), (8, .bool (decide (i < ((xs.length : Nat) : Int))))] ((True) ∧ (True) ∧ (True) ∧ (True) ∧ True) rfl (by kernel_rfl) ⟨trivial, trivial, trivial, trivial, trivial⟩ ?_
  refine RunR.done (by kernel_rfl) ?_
  refine kseq_n ?_
  refine RunC.condp (i < ((xs.length : Nat) : Int)) (by kernel_rfl) (fun h2 => ?_) (fun h2 => ?_)
  · skip
    refine RunC.skip ?_
    refine kseq_n ?_
    refine RunC.seq ?_
    refine RunC.block ?_
    refine RunC.seq ?_
    refine RunC.seq ?_
    refine RunC.region ?_
    refine RunR.sil hU [] 2 2 [0, 2, 3, 4, 12] [(0, .slice A8 xs.length c8), (2, .string ⟨#[]⟩), (3, .string t), (4, .int .i64 i), (12, .bool (decide (i > 0)))] ((True) ∧ (True) ∧ True) rfl (by kernel_rfl) ⟨trivial, trivial, trivial⟩ ?_
    refine RunR.done (by kernel_rfl) ?_
    refine kseq_n ?_
    refine RunC.condp (i > 0) (by kernel_rfl) (fun h3 => ?_) (fun h3 => ?_)
    · skip
      refine RunC.region ?_
      refine RunR.sil hU [] 3 3 [0, 2, 3, 4] [(0, .slice A8 xs.length c8), (2, .string ⟨#[]⟩), (3, .string (t ++ (⟨#[47]⟩ : ByteArray))), (4, .int .i64 i)] ((True) ∧ ((t : ByteArray).size + (⟨#[47]⟩ : ByteArray).size ≤ 9223372036854775807) ∧ (True) ∧ True) rfl (by kernel_rfl) ⟨trivial, (by have h_ := hM.le i.toNat; have h3_ : (⟨#[47]⟩ : ByteArray).size = 1 := rfl; (try simp only [app_size]); omega), trivial, trivial⟩ ?_
      refine RunR.done (by kernel_rfl) ?_
      refine kseq_n ?_
      refine RunC.region ?_
      refine RunR.sil hU [] 4 4 [0, 2, 3, 4, 15, 18] [(0, .slice A8 xs.length c8), (2, .string ⟨#[]⟩), (3, .string (t ++ (⟨#[47]⟩ : ByteArray))), (4, .int .i64 i), (15, .string (t ++ (⟨#[47]⟩ : ByteArray))), (18, .pointer (elemAt A8 i 1))] ((True) ∧ (True) ∧ (True) ∧ ((0 ≤ i ∧ i < ((xs.length : Nat) : Int)) ∧ Option.isSome A8 = true) ∧ True) rfl (by kernel_rfl) ⟨trivial, trivial, trivial, ⟨by omega, hA1 (by omega)⟩, trivial⟩ ?_
      refine RunR.step (dst := some 19) (op := .load 9 (.tmp 18)) (by kernel_rfl) (Step.load_of hU 0 (vw A8 (strV xs)) A8 i 1 (strV xs) (.string (xs.getD (i).toNat ByteArray.empty)) (by kernel_rfl) (by kernel_rfl) (tells_vw _ _) (loadv_str (by kernel_rfl) (by first | omega | (simp only [List.length_cons, List.length_nil]; omega))) (by kernel_rfl) (by rw [strV_len]; first | omega | (simp only [List.length_cons, List.length_nil]; omega)) ?_)
      refine RunR.sil hU [] 2 7 [0, 2, 3, 4] [(0, .slice A8 xs.length c8), (2, .string ⟨#[]⟩), (3, .string ((t ++ (⟨#[47]⟩ : ByteArray)) ++ (xs.getD (i).toNat ByteArray.empty))), (4, .int .i64 i)] (((t ++ (⟨#[47]⟩ : ByteArray) : ByteArray).size + (xs.getD (i).toNat ByteArray.empty : ByteArray).size ≤ 9223372036854775807) ∧ (True) ∧ True) rfl (by kernel_rfl) ⟨(by have h_ := hM.le i.toNat; have h3_ : (⟨#[47]⟩ : ByteArray).size = 1 := rfl; (try simp only [app_size]); omega), trivial, trivial⟩ ?_
      refine RunR.done (by kernel_rfl) ?_
      refine kblock_n ?_
      refine kseq_n ?_
      refine RunC.region ?_
      refine RunR.sil hU [1] 3 3 [0, 2, 3, 4] [(0, .slice A8 xs.length c8), (2, .string ⟨#[]⟩), (3, .string ((t ++ (⟨#[47]⟩ : ByteArray)) ++ (xs.getD (i).toNat ByteArray.empty))), (4, .int .i64 (i + 1))] ((True) ∧ (-9223372036854775808 ≤ (i + 1) ∧ (i + 1) < 9223372036854775808) ∧ (True) ∧ True) rfl (by kernel_rfl) ⟨trivial, (by omega), trivial, trivial⟩ ?_
      refine RunR.done (by kernel_rfl) ?_
      refine kloop_n _ [0, 2, 3, 4] [0] [(0, .slice A8 xs.length c8), (2, .string ⟨#[]⟩), (3, .string ((t ++ (⟨#[47]⟩ : ByteArray)) ++ (xs.getD (i).toNat ByteArray.empty))), (4, .int .i64 (i + 1))] [vw A8 (strV xs)] (by kernel_rfl) (by kernel_rfl) ?_ ⟨((t ++ (⟨#[47]⟩ : ByteArray)) ++ (xs.getD (i).toNat ByteArray.empty)), (i + 1), (by first | assumption | omega | (simp only [List.length_append, List.length_cons, List.length_nil, List.length_set, List.length_replicate, List.length_take, List.length_drop]; omega) | (simp only [fits] at *; omega) | (simp only [List.length_append, List.length_cons, List.length_nil, List.length_set, List.length_replicate, List.length_take, List.length_drop] at *; omega) | (simp; done) | decide), (by rw [show (i + 1).toNat = i.toNat + 1 by omega]; first | exact joinS_2 ht (by omega) (by omega) | exact joinS_1 ht (by omega) (by omega)), (by have h_ := hM.le i.toNat; have h3_ : (⟨#[47]⟩ : ByteArray).size = 1 := rfl; simp only [app_size]; omega), rfl, (by first | rfl | simp only [List.length_set]), (by first | rfl | simp only [List.length_set])⟩
      show ((xs.length - (i + 1)).toNat : Nat) < ((xs.length - i).toNat : Nat)
      omega
    · skip
      refine RunC.skip ?_
      refine kseq_n ?_
      refine RunC.region ?_
      refine RunR.sil hU [] 4 4 [0, 2, 3, 4, 15, 18] [(0, .slice A8 xs.length c8), (2, .string ⟨#[]⟩), (3, .string t), (4, .int .i64 i), (15, .string t), (18, .pointer (elemAt A8 i 1))] ((True) ∧ (True) ∧ (True) ∧ ((0 ≤ i ∧ i < ((xs.length : Nat) : Int)) ∧ Option.isSome A8 = true) ∧ True) rfl (by kernel_rfl) ⟨trivial, trivial, trivial, ⟨by omega, hA1 (by omega)⟩, trivial⟩ ?_
      refine RunR.step (dst := some 19) (op := .load 9 (.tmp 18)) (by kernel_rfl) (Step.load_of hU 0 (vw A8 (strV xs)) A8 i 1 (strV xs) (.string (xs.getD (i).toNat ByteArray.empty)) (by kernel_rfl) (by kernel_rfl) (tells_vw _ _) (loadv_str (by kernel_rfl) (by first | omega | (simp only [List.length_cons, List.length_nil]; omega))) (by kernel_rfl) (by rw [strV_len]; first | omega | (simp only [List.length_cons, List.length_nil]; omega)) ?_)
      refine RunR.sil hU [] 2 7 [0, 2, 3, 4] [(0, .slice A8 xs.length c8), (2, .string ⟨#[]⟩), (3, .string (t ++ (xs.getD (i).toNat ByteArray.empty))), (4, .int .i64 i)] (((t : ByteArray).size + (xs.getD (i).toNat ByteArray.empty : ByteArray).size ≤ 9223372036854775807) ∧ (True) ∧ True) rfl (by kernel_rfl) ⟨(by have h_ := hM.le i.toNat; have h3_ : (⟨#[47]⟩ : ByteArray).size = 1 := rfl; (try simp only [app_size]); omega), trivial, trivial⟩ ?_
      refine RunR.done (by kernel_rfl) ?_
      refine kblock_n ?_
      refine kseq_n ?_
      refine RunC.region ?_
      refine RunR.sil hU [1] 3 3 [0, 2, 3, 4] [(0, .slice A8 xs.length c8), (2, .string ⟨#[]⟩), (3, .string (t ++ (xs.getD (i).toNat ByteArray.empty))), (4, .int .i64 (i + 1))] ((True) ∧ (-9223372036854775808 ≤ (i + 1) ∧ (i + 1) < 9223372036854775808) ∧ (True) ∧ True) rfl (by kernel_rfl) ⟨trivial, (by omega), trivial, trivial⟩ ?_
      refine RunR.done (by kernel_rfl) ?_
      refine kloop_n _ [0, 2, 3, 4] [0] [(0, .slice A8 xs.length c8), (2, .string ⟨#[]⟩), (3, .string (t ++ (xs.getD (i).toNat ByteArray.empty))), (4, .int .i64 (i + 1))] [vw A8 (strV xs)] (by kernel_rfl) (by kernel_rfl) ?_ ⟨(t ++ (xs.getD (i).toNat ByteArray.empty)), (i + 1), (by first | assumption | omega | (simp only [List.length_append, List.length_cons, List.length_nil, List.length_set, List.length_replicate, List.length_take, List.length_drop]; omega) | (simp only [fits] at *; omega) | (simp only [List.length_append, List.length_cons, List.length_nil, List.length_set, List.length_replicate, List.length_take, List.length_drop] at *; omega) | (simp; done) | decide), (by rw [show (i + 1).toNat = i.toNat + 1 by omega]; first | exact joinS_2 ht (by omega) (by omega) | exact joinS_1 ht (by omega) (by omega)), (by have h_ := hM.le i.toNat; have h3_ : (⟨#[47]⟩ : ByteArray).size = 1 := rfl; simp only [app_size]; omega), rfl, (by first | rfl | simp only [List.length_set]), (by first | rfl | simp only [List.length_set])⟩
      show ((xs.length - (i + 1)).toNat : Nat) < ((xs.length - i).toNat : Nat)
      omega
  · skip
    refine RunC.exit ?_
    refine kseq_e ?_
    refine kloop_e ?_
    refine kblock_e ?_
    refine kseq_n ?_
    refine RunC.seq ?_
    refine RunC.region ?_
    refine RunR.sil hU [] 2 2 [2] [(2, .string t)] ((True) ∧ (True) ∧ True) rfl (by kernel_rfl) ⟨trivial, trivial, trivial⟩ ?_
    refine RunR.done (by kernel_rfl) ?_
    refine kseq_n ?_
    refine RunC.ret ?_
    refine kret_r [.string t] [] [] ⟨rfl, trivial⟩ (by kernel_rfl) rfl ⟨(by first | rfl | (rw [ht, joinS_all (by omega)]; rfl)), (by first | rfl | (rw [ht, joinS_all (by omega)]; rfl))⟩
end Go.Proofs.YtjhinpmnpdgadaaDoor.X7
