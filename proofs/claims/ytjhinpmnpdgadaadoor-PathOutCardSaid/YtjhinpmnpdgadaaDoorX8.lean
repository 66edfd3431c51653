/- What these functions compute: a contract for each, walked through its code. -/
import Derived.Test.YtjhinpmnpdgadaaDoorZPure
import Derived.Test.YtjhinpmnpdgadaaDoorProg
import Derived.Test.YtjhinpmnpdgadaaDoorX1
import Derived.Test.YtjhinpmnpdgadaaDoorX2
import Derived.Test.YtjhinpmnpdgadaaDoorX3
import Derived.Test.YtjhinpmnpdgadaaDoorX4
import Derived.Test.YtjhinpmnpdgadaaDoorX5
import Derived.Test.YtjhinpmnpdgadaaDoorX6
import Derived.Test.YtjhinpmnpdgadaaDoorX7
namespace Go.Proofs.YtjhinpmnpdgadaaDoor.X8
open Go Go.Proofs.YtjhinpmnpdgadaaDoor.SL Go.Proofs.YtjhinpmnpdgadaaDoor.SL.W Go.Proofs.YtjhinpmnpdgadaaDoor.SL.Z Go.Proofs.YtjhinpmnpdgadaaDoor.X1 Go.Proofs.YtjhinpmnpdgadaaDoor.X2 Go.Proofs.YtjhinpmnpdgadaaDoor.X3 Go.Proofs.YtjhinpmnpdgadaaDoor.X4 Go.Proofs.YtjhinpmnpdgadaaDoor.X5 Go.Proofs.YtjhinpmnpdgadaaDoor.X6 Go.Proofs.YtjhinpmnpdgadaaDoor.X7
set_option linter.unusedVariables false
set_option linter.unusedSimpArgs false
set_option maxRecDepth 100000
set_option maxHeartbeats 40000000
def U : Tab where
  und := [(3, .int .i64), (9, .string), (33, .slice 9)]
  fld := []
  sz := [(3, 1), (9, 1), (33, 1)]
  ti := [(3, (1, 8, .int .i64 0)), (9, (1, 16, .string ⟨#[]⟩)), (33, (1, 24, .slice none 0 0))]
  bld := []

theorem hU : U.OK Tryd.prog where
  und := by
    intro p hp
    simp only [U, List.mem_cons, List.not_mem_nil, or_false] at hp
    rcases hp with rfl | rfl | rfl
    · exact Tryd.underlying3
    · exact Tryd.underlying9
    · exact Tryd.underlying33
  fld := by
    intro p hp; cases hp
  sz := by
    intro p hp
    simp only [U, List.mem_cons, List.not_mem_nil, or_false] at hp
    rcases hp with rfl | rfl | rfl
    · exact ⟨Tryd.prog.types[3]!, by kernel_rfl, by kernel_rfl⟩
    · exact ⟨Tryd.prog.types[9]!, by kernel_rfl, by kernel_rfl⟩
    · exact ⟨Tryd.prog.types[33]!, by kernel_rfl, by kernel_rfl⟩
  ti := by
    intro p hp
    simp only [U, List.mem_cons, List.not_mem_nil, or_false] at hp
    rcases hp with rfl | rfl | rfl
    · exact ⟨Tryd.prog.types[3]!, by kernel_rfl, by kernel_rfl, by kernel_rfl, by kernel_rfl⟩
    · exact ⟨Tryd.prog.types[9]!, by kernel_rfl, by kernel_rfl, by kernel_rfl, by kernel_rfl⟩
    · exact ⟨Tryd.prog.types[33]!, by kernel_rfl, by kernel_rfl, by kernel_rfl, by kernel_rfl⟩
  bld := by
    intro p hp; cases hp
  mixed := by kernel_rfl

theorem sl_Cut_spec (s : ByteArray) (hsz : (s : ByteArray).size ≤ 140737488351232) :
    CallsS Tryd.prog 50 [.string s, .string (⟨#[46, 119, 104, 46]⟩ : ByteArray)] [] (fun r D => ∃ (rz : ByteArray), r = .tuple #[.string rz, .bool (decide (ByteArray.extract s 0 4 = WH))] ∧ D = [] ∧ (rz = if ByteArray.extract s 0 4 = WH then restS s else s)) := by
  refine CallsS.enter hU Tryd.f50 _ [.tmp 4, .tmp 5] 15 Tryd.func50 rfl (by decide) rfl rfl (by kernel_rfl) fun w0 W => ?_
  refine RunC.seq ?_
  refine RunC.region ?_
  refine RunR.sil hU [] 2 2 [0, 1, 4, 5] [(0, .string s), (1, .string (⟨#[46, 119, 104, 46]⟩ : ByteArray)), (4, .string ⟨#[]⟩), (5, .bool false)] ((True) ∧ (True) ∧ True) rfl (by kernel_rfl) ⟨trivial, trivial, trivial⟩ ?_
  refine RunR.done (by kernel_rfl) ?_
  refine kseq_n ?_
  refine RunC.seq ?_
  refine RunC.seq ?_
  refine RunC.region ?_
  refine RunR.sil hU [] 2 2 [0, 1, 4, 5, 6, 7] [(0, .string s), (1, .string (⟨#[46, 119, 104, 46]⟩ : ByteArray)), (4, .string ⟨#[]⟩), (5, .bool false), (6, .string s), (7, .string (⟨#[46, 119, 104, 46]⟩ : ByteArray))] ((True) ∧ (True) ∧ True) rfl (by kernel_rfl) ⟨trivial, trivial, trivial⟩ ?_
  refine RunR.step (dst := some 8) (op := .call { callee := .value (.func 44), args := #[.tmp 6, .tmp 7], argTypes := #[9, 9] }) (by kernel_rfl) (Step.call 44 [.string s, .string (⟨#[46, 119, 104, 46]⟩ : ByteArray)] (by kernel_rfl) (by kernel_rfl) [] [] [] (sl_HasPrefix_spec s (⟨#[46, 119, 104, 46]⟩ : ByteArray) (by first | assumption | omega | (simp only [List.length_append, List.length_cons, List.length_nil, List.length_set, List.length_replicate, List.length_take, List.length_drop]; omega) | (simp only [fits] at *; omega) | (simp only [List.length_append, List.length_cons, List.length_nil, List.length_set, List.length_replicate, List.length_take, List.length_drop] at *; omega) | (simp; done) | decide) (by first | assumption | omega | (simp only [List.length_append, List.length_cons, List.length_nil, List.length_set, List.length_replicate, List.length_take, List.length_drop]; omega) | (simp only [fits] at *; omega) | (simp only [List.length_append, List.length_cons, List.length_nil, List.length_set, List.length_replicate, List.length_take, List.length_drop] at *; omega) | (simp; done) | decide)) [] (by kernel_rfl) (Lend.nil _) ?_)
  rintro _ _ ⟨rfl, rfl⟩
  refine RunR.sil hU [] 1 4 [0, 1, 4, 5, 9] [(0, .string s), (1, .string (⟨#[46, 119, 104, 46]⟩ : ByteArray)), (4, .string ⟨#[]⟩), (5, .bool false), (9, .bool (!decide (ByteArray.extract s 0 ((⟨#[46, 119, 104, 46]⟩ : ByteArray) : ByteArray).size = (⟨#[46, 119, 104, 46]⟩ : ByteArray))))] ((True) ∧ True) rfl (by kernel_rfl) ⟨trivial, trivial⟩ ?_
  refine RunR.done (by kernel_rfl) ?_
  refine kseq_n ?_
  refine RunC.condn (ByteArray.extract s 0 ((⟨#[46, 119, 104, 46]⟩ : ByteArray) : ByteArray).size = (⟨#[46, 119, 104, 46]⟩ : ByteArray)) (by kernel_rfl) (fun h1 => ?_) (fun h1 => ?_)
  · skip
    refine RunC.seq ?_
    refine RunC.region ?_
    refine RunR.sil hU [] 3 3 [0, 1, 4, 5] [(0, .string s), (1, .string (⟨#[46, 119, 104, 46]⟩ : ByteArray)), (4, .string s), (5, .bool false)] ((True) ∧ (True) ∧ (True) ∧ True) rfl (by kernel_rfl) ⟨trivial, trivial, trivial, trivial⟩ ?_
    refine RunR.done (by kernel_rfl) ?_
    refine kseq_n ?_
    refine RunC.ret ?_
    refine kseq_r ?_
    refine kret_r [.string s, .bool false] [] [] ⟨rfl, rfl, trivial⟩ (by kernel_rfl) rfl ⟨s, (by first | rfl | (exact congrArg (fun b => Value.tuple #[_, .bool b]) (decide_eq_false (by assumption)).symm)), (by first | rfl | (exact congrArg (fun b => Value.tuple #[_, .bool b]) (decide_eq_false (by assumption)).symm)), (by rw [if_neg (by assumption)])⟩
  · skip
    refine RunC.skip ?_
    refine kseq_n ?_
    refine RunC.seq ?_
    refine RunC.region ?_
    refine RunR.sil hU [] 6 6 [4, 5] [(4, .string (ByteArray.extract s 4 ((s : ByteArray).size))), (5, .bool true)] ((True) ∧ (True) ∧ (True) ∧ (0 ≤ (4 : Int) ∧ (4 : Int) ≤ (s : ByteArray).size) ∧ (True) ∧ (True) ∧ True) rfl (by kernel_rfl) ⟨trivial, trivial, trivial, (by first | omega | (have h_ := ext4 (by assumption); omega)), trivial, trivial, trivial⟩ ?_
    refine RunR.done (by kernel_rfl) ?_
    refine kseq_n ?_
    refine RunC.ret ?_
    refine kret_r [.string (ByteArray.extract s 4 ((s : ByteArray).size)), .bool true] [] [] ⟨rfl, rfl, trivial⟩ (by kernel_rfl) rfl ⟨(ByteArray.extract s 4 ((s : ByteArray).size)), (by first | rfl | (exact congrArg (fun b => Value.tuple #[_, .bool b]) (decide_eq_true (by assumption)).symm)), (by first | rfl | (exact congrArg (fun b => Value.tuple #[_, .bool b]) (decide_eq_true (by assumption)).symm)), (by rw [if_pos (by assumption)])⟩

theorem s_Cut_spec (s : ByteArray) (hsz : (s : ByteArray).size ≤ 140737488351232) :
    CallsS Tryd.prog 37 [.string s, .string (⟨#[46, 119, 104, 46]⟩ : ByteArray)] [] (fun r D => ∃ (rz : ByteArray), r = .tuple #[.string rz, .bool (decide (ByteArray.extract s 0 4 = WH))] ∧ D = [] ∧ (rz = if ByteArray.extract s 0 4 = WH then restS s else s)) := by
  refine CallsS.enter hU Tryd.f37 _ [.tmp 4, .tmp 5] 11 Tryd.func37 rfl (by decide) rfl rfl (by kernel_rfl) fun w0 W => ?_
  refine RunC.seq ?_
  refine RunC.region ?_
  refine RunR.sil hU [] 2 2 [0, 1, 4, 5] [(0, .string s), (1, .string (⟨#[46, 119, 104, 46]⟩ : ByteArray)), (4, .string ⟨#[]⟩), (5, .bool false)] ((True) ∧ (True) ∧ True) rfl (by kernel_rfl) ⟨trivial, trivial, trivial⟩ ?_
  refine RunR.done (by kernel_rfl) ?_
  refine kseq_n ?_
  refine RunC.seq ?_
  refine RunC.region ?_
  refine RunR.sil hU [] 2 2 [4, 5, 6, 7] [(4, .string ⟨#[]⟩), (5, .bool false), (6, .string s), (7, .string (⟨#[46, 119, 104, 46]⟩ : ByteArray))] ((True) ∧ (True) ∧ True) rfl (by kernel_rfl) ⟨trivial, trivial, trivial⟩ ?_
  refine RunR.step (dst := some 8) (op := .call { callee := .value (.func 50), args := #[.tmp 6, .tmp 7], argTypes := #[9, 9] }) (by kernel_rfl) (Step.call 50 [.string s, .string (⟨#[46, 119, 104, 46]⟩ : ByteArray)] (by kernel_rfl) (by kernel_rfl) [] [] [] (sl_Cut_spec s (by first | assumption | omega | (simp only [List.length_append, List.length_cons, List.length_nil, List.length_set, List.length_replicate, List.length_take, List.length_drop]; omega) | (simp only [fits] at *; omega) | (simp only [List.length_append, List.length_cons, List.length_nil, List.length_set, List.length_replicate, List.length_take, List.length_drop] at *; omega) | (simp; done) | decide)) [] (by kernel_rfl) (Lend.nil _) ?_)
  rintro _ _ ⟨rz1, rfl, rfl, hp2⟩
  refine RunR.sil hU [] 4 7 [4, 5] [(4, .string rz1), (5, .bool (decide (ByteArray.extract s 0 4 = WH)))] ((True) ∧ (True) ∧ (True) ∧ (True) ∧ True) rfl (by kernel_rfl) ⟨trivial, trivial, trivial, trivial, trivial⟩ ?_
  refine RunR.done (by kernel_rfl) ?_
  refine kseq_n ?_
  refine RunC.ret ?_
  refine kret_r [.string rz1, .bool (decide (ByteArray.extract s 0 4 = WH))] [] [] ⟨rfl, rfl, trivial⟩ (by kernel_rfl) rfl ⟨rz1, rfl, rfl, (by assumption)⟩

theorem pr_White_spec (A8 : Option Addr) (c8 : Nat) (xs : List ByteArray) (l_xs : Nat) (hn : xs.length ≤ 32) (hM : MayAll xs) (hC : xs.length ≤ c8) (hA8 : 0 < xs.length → Option.isSome A8 = true) (hl_xs : xs.length = l_xs) :
    CallsS Tryd.prog 24 [.slice A8 l_xs c8] [vw A8 (strV xs)] (fun r D => ∃ (A9 : Option Addr) (c9 : Nat) (zs : List ByteArray) (k : Int) (e : Int), r = .tuple #[.slice A9 zs.length c9, .int .i64 k, .int .i64 e] ∧ D = [row 9 1 (.slice A9 zs.length c9) zs.length (strV zs)] ∧ ((zs, k, e) = whP xs) ∧ (0 < zs.length → Option.isSome A9 = true) ∧ (zs.length ≤ c9)) := by
  subst hl_xs
  refine CallsS.enter hU Tryd.f24 _ [.tmp 2, .tmp 3, .tmp 4] 47 Tryd.func24 rfl (by decide) rfl rfl (by kernel_rfl) fun w0 W => ?_
  refine RunC.seq ?_
  refine RunC.region ?_
  refine RunR.sil hU [] 3 3 [0, 2, 3, 4] [(0, .slice A8 xs.length c8), (2, .slice none 0 0), (3, .int .i64 0), (4, .int .i64 0)] ((True) ∧ (True) ∧ (True) ∧ True) rfl (by kernel_rfl) ⟨trivial, trivial, trivial, trivial⟩ ?_
  refine RunR.done (by kernel_rfl) ?_
  refine kseq_n ?_
  refine RunC.seq ?_
  refine RunC.seq ?_
  refine RunC.region ?_
  refine RunR.sil hU [] 3 3 [0, 2, 3, 4, 9] [(0, .slice A8 xs.length c8), (2, .slice none 0 0), (3, .int .i64 0), (4, .int .i64 0), (9, .bool (decide (((xs.length : Nat) : Int) = 0)))] ((True) ∧ (True) ∧ (True) ∧ True) rfl (by kernel_rfl) ⟨trivial, trivial, trivial, trivial⟩ ?_
  refine RunR.done (by kernel_rfl) ?_
  refine kseq_n ?_
  refine RunC.condp (((xs.length : Nat) : Int) = 0) (by kernel_rfl) (fun h1 => ?_) (fun h1 => ?_)
  · skip
    refine RunC.seq ?_
    refine RunC.region ?_
    refine RunR.sil hU [] 3 3 [0, 2, 3, 4] [(0, .slice A8 xs.length c8), (2, .slice none 0 0), (3, .int .i64 0), (4, .int .i64 0)] ((True) ∧ (True) ∧ (True) ∧ True) rfl (by kernel_rfl) ⟨trivial, trivial, trivial, trivial⟩ ?_
    refine RunR.done (by kernel_rfl) ?_
    refine kseq_n ?_
    refine RunC.ret ?_
    refine kseq_r ?_
    refine kret_rt ([row 9 1 (.slice none 0 0) 0 (strV ([] : List ByteArray)), vw A8 (strV xs)]) (fun w0 W w hs => (hs).nil_row 9 1) [.slice none 0 0, .int .i64 0, .int .i64 0] [0] [row 9 1 (.slice none 0 0) 0 (strV ([] : List ByteArray))] ⟨rfl, rfl, rfl, trivial⟩ (by kernel_rfl) rfl ⟨none, 0, ([] : List ByteArray), 0, 0, rfl, rfl, (by exact wh_0 (by assumption)), (by first | assumption | (intro h; simp at h)), (by first | assumption | exact Nat.zero_le _)⟩
  · skip
    refine RunC.skip ?_
    refine kseq_n ?_
    refine RunC.seq ?_
    refine RunC.region ?_
    refine RunR.step (dst := some 10) (op := .buildSlice 33 0 #[]) (by kernel_rfl) (Step.lit_vals hU 9 16 (.string ⟨#[]⟩) (strV ([] : List ByteArray)) (by kernel_rfl) (by kernel_rfl) (by kernel_rfl) (by simp [strV, Value.cells]) rfl rfl (by kernel_rfl) (fun b2 => ?_))
    refine RunR.sil hU [4] 5 6 [0, 2, 3, 4, 10, 15] [(0, .slice A8 xs.length c8), (2, .slice none 0 0), (3, .int .i64 0), (4, .int .i64 0), (10, .slice (some ⟨b2, 0, none⟩) 0 0), (15, .slice A8 ((((xs.length : Nat) : Int) - 1).toNat) c8)] ((True) ∧ (True) ∧ (True) ∧ (-9223372036854775808 ≤ (((xs.length : Nat) : Int) - 1) ∧ (((xs.length : Nat) : Int) - 1) < 9223372036854775808) ∧ (0 ≤ (((xs.length : Nat) : Int) - 1) ∧ (((xs.length : Nat) : Int) - 1) ≤ ((c8 : Nat) : Int)) ∧ True) rfl (by kernel_rfl) ⟨trivial, trivial, trivial, (by omega), (by omega), trivial⟩ ?_
    obtain ⟨ss3, hz4⟩ : ∃ z : List ByteArray, z = xs.take ((((xs.length : Nat) : Int) - 1).toNat) := ⟨_, rfl⟩
    have hl5 : ss3.length = (((xs.length : Nat) : Int) - 1).toNat := by rw [hz4, List.length_take]; omega
    have hB6_t : Tells (vw A8 (strV xs)) (A8) (strV ss3) := by rw [hz4]; exact tells_take_strs (tells_vw _ _) _
    refine RunR.step (dst := some 16) (op := .call { callee := .builtin .append, args := #[.tmp 10, .tmp 15], argTypes := #[33, 33] }) (by kernel_rfl) (Step.append_strs hU 9 16 (.string ⟨#[]⟩) 0 1 (some ⟨b2, 0, none⟩) 0 0 ([] : List ByteArray) A8 ((((xs.length : Nat) : Int) - 1).toNat) c8 (vw A8 (strV xs)) ss3 (by kernel_rfl) (by kernel_rfl) (by kernel_rfl) (by kernel_rfl) (by kernel_rfl) (by kernel_rfl) (by kernel_rfl) (hB6_t) (by first | rfl | omega | (simp only [List.length_cons, List.length_nil] at *; omega)) (by first | rfl | omega | (simp only [List.length_cons, List.length_nil] at *; omega)) (by first | rfl | omega | (simp only [List.length_cons, List.length_nil] at *; omega)) (by first | rfl | omega | (simp only [List.length_cons, List.length_nil] at *; omega)) (by kernel_rfl) (fun Aq7 cq8 hc9 hA10 => ?_))
    have hl11 : (([] : List ByteArray) ++ ss3).length = ([] : List ByteArray).length + ss3.length := List.length_append
    refine RunR.sil hU [] 1 8 [0, 2, 3, 4, 5] [(0, .slice A8 xs.length c8), (2, .slice none 0 0), (3, .int .i64 0), (4, .int .i64 0), (5, .slice Aq7 ((([] : List ByteArray) ++ ss3).length) cq8)] ((True) ∧ True) rfl (by kernel_rfl) ⟨trivial, trivial⟩ ?_
    refine RunR.done (by kernel_rfl) ?_
    refine kseq_n ?_
    refine RunC.seq ?_
    refine RunC.region ?_
    refine RunR.sil hU [3] 5 5 [2, 3, 4, 5, 21] [(2, .slice none 0 0), (3, .int .i64 0), (4, .int .i64 0), (5, .slice Aq7 ((([] : List ByteArray) ++ ss3).length) cq8), (21, .pointer (elemAt A8 (((xs.length : Nat) : Int) - 1) 1))] ((True) ∧ (True) ∧ (True) ∧ (-9223372036854775808 ≤ (((xs.length : Nat) : Int) - 1) ∧ (((xs.length : Nat) : Int) - 1) < 9223372036854775808) ∧ ((0 ≤ (((xs.length : Nat) : Int) - 1) ∧ (((xs.length : Nat) : Int) - 1) < ((xs.length : Nat) : Int)) ∧ Option.isSome A8 = true) ∧ True) rfl (by kernel_rfl) ⟨trivial, trivial, trivial, (by omega), ⟨by omega, hA8 (by omega)⟩, trivial⟩ ?_
    refine RunR.step (dst := some 22) (op := .load 9 (.tmp 21)) (by kernel_rfl) (Step.load_of hU 1 (vw A8 (strV xs)) A8 (((xs.length : Nat) : Int) - 1) 1 (strV xs) (.string (xs.getD (((xs.length : Nat) : Int) - 1).toNat ByteArray.empty)) (by kernel_rfl) (by kernel_rfl) (tells_vw _ _) (loadv_str (by kernel_rfl) (by first | omega | (simp only [List.length_cons, List.length_nil]; omega))) (by kernel_rfl) (by rw [strV_len]; first | omega | (simp only [List.length_cons, List.length_nil]; omega)) ?_)
    refine RunR.sil hU [] 1 7 [2, 3, 4, 5, 6] [(2, .slice none 0 0), (3, .int .i64 0), (4, .int .i64 0), (5, .slice Aq7 ((([] : List ByteArray) ++ ss3).length) cq8), (6, .string (xs.getD (((xs.length : Nat) : Int) - 1).toNat ByteArray.empty))] ((True) ∧ True) rfl (by kernel_rfl) ⟨trivial, trivial⟩ ?_
    refine RunR.done (by kernel_rfl) ?_
    refine kseq_n ?_
    refine RunC.seq ?_
    refine RunC.seq ?_
    refine RunC.region ?_
    refine RunR.sil hU [] 2 2 [2, 3, 4, 5, 6, 24] [(2, .slice none 0 0), (3, .int .i64 0), (4, .int .i64 0), (5, .slice Aq7 ((([] : List ByteArray) ++ ss3).length) cq8), (6, .string (xs.getD (((xs.length : Nat) : Int) - 1).toNat ByteArray.empty)), (24, .bool (decide ((xs.getD (((xs.length : Nat) : Int) - 1).toNat ByteArray.empty) = ⟨#[46, 119, 104, 46, 46, 119, 104, 46, 46, 111, 112, 113]⟩)))] ((True) ∧ (True) ∧ True) rfl (by kernel_rfl) ⟨trivial, trivial, trivial⟩ ?_
    refine RunR.done (by kernel_rfl) ?_
    refine kseq_n ?_
    refine RunC.condp ((xs.getD (((xs.length : Nat) : Int) - 1).toNat ByteArray.empty) = ⟨#[46, 119, 104, 46, 46, 119, 104, 46, 46, 111, 112, 113]⟩) (by kernel_rfl) (fun h12 => ?_) (fun h12 => ?_)
    · skip
      refine RunC.seq ?_
      refine RunC.region ?_
      refine RunR.sil hU [] 4 4 [2, 3, 4, 5, 6] [(2, .slice Aq7 ((([] : List ByteArray) ++ ss3).length) cq8), (3, .int .i64 2), (4, .int .i64 0), (5, .slice Aq7 ((([] : List ByteArray) ++ ss3).length) cq8), (6, .string (xs.getD (((xs.length : Nat) : Int) - 1).toNat ByteArray.empty))] ((True) ∧ (True) ∧ (True) ∧ (True) ∧ True) rfl (by kernel_rfl) ⟨trivial, trivial, trivial, trivial, trivial⟩ ?_
      refine RunR.done (by kernel_rfl) ?_
      refine kseq_n ?_
      refine RunC.ret ?_
      refine kseq_r ?_
      refine kret_r [.slice Aq7 ((([] : List ByteArray) ++ ss3).length) cq8, .int .i64 2, .int .i64 0] [0] [row 9 1 (.slice Aq7 ((([] : List ByteArray) ++ ss3).length) cq8) ((([] : List ByteArray) ++ ss3).length) (strV (([] : List ByteArray) ++ ss3))] ⟨rfl, rfl, rfl, trivial⟩ (by kernel_rfl) rfl ⟨Aq7, cq8, (([] : List ByteArray) ++ ss3), 2, 0, rfl, rfl, (by exact wr_1 (by assumption) hz4 (by assumption)), (by first | assumption | (intro h; simp at h)), (by first | assumption | exact Nat.zero_le _)⟩
    · skip
      refine RunC.skip ?_
      refine kseq_n ?_
      refine RunC.seq ?_
      refine RunC.seq ?_
      refine RunC.region ?_
      refine RunR.sil hU [] 4 4 [2, 3, 4, 5, 6, 29] [(2, .slice none 0 0), (3, .int .i64 0), (4, .int .i64 0), (5, .slice Aq7 ((([] : List ByteArray) ++ ss3).length) cq8), (6, .string (xs.getD (((xs.length : Nat) : Int) - 1).toNat ByteArray.empty)), (29, .bool (decide (((xs.getD (((xs.length : Nat) : Int) - 1).toNat ByteArray.empty : ByteArray).size : Int) < 4)))] ((True) ∧ (True) ∧ (True) ∧ (True) ∧ True) rfl (by kernel_rfl) ⟨trivial, trivial, trivial, trivial, trivial⟩ ?_
      refine RunR.env [2, 3, 4, 5, 6, 29] [(2, .slice none 0 0), (3, .int .i64 0), (4, .int .i64 0), (5, .slice Aq7 ((([] : List ByteArray) ++ ss3).length) cq8), (6, .string (xs.getD (((xs.length : Nat) : Int) - 1).toNat ByteArray.empty)), (29, .bool (decide (((xs.getD (((xs.length : Nat) : Int) - 1).toNat ByteArray.empty : ByteArray).size : Int) < 4)))] (by kernel_rfl) ?_
      by_cases h13 : ((xs.getD (((xs.length : Nat) : Int) - 1).toNat ByteArray.empty : ByteArray).size : Int) < 4
      · skip
        refine RunR.enveq [(2, .slice none 0 0), (3, .int .i64 0), (4, .int .i64 0), (5, .slice Aq7 ((([] : List ByteArray) ++ ss3).length) cq8), (6, .string (xs.getD (((xs.length : Nat) : Int) - 1).toNat ByteArray.empty)), (29, .bool true)] (by rw [decide_eq_true h13]; try rfl) ?_
        refine RunR.sil hU [] 4 8 [2, 3, 4, 5, 6, 33] [(2, .slice none 0 0), (3, .int .i64 0), (4, .int .i64 0), (5, .slice Aq7 ((([] : List ByteArray) ++ ss3).length) cq8), (6, .string (xs.getD (((xs.length : Nat) : Int) - 1).toNat ByteArray.empty)), (33, .bool true)] ((True) ∧ True) rfl (by kernel_rfl) ⟨trivial, trivial⟩ ?_
        refine RunR.done (by kernel_rfl) ?_
        refine kseq_n ?_
        refine RunC.cond (b := true) (by kernel_rfl) (fun _ => ?_) (fun h => by cases h)
        refine RunC.seq ?_
        refine RunC.region ?_
        refine RunR.sil hU [] 2 2 [2, 3, 4, 5, 6, 34, 35] [(2, .slice none 0 0), (3, .int .i64 0), (4, .int .i64 0), (5, .slice Aq7 ((([] : List ByteArray) ++ ss3).length) cq8), (6, .string (xs.getD (((xs.length : Nat) : Int) - 1).toNat ByteArray.empty)), (34, .slice Aq7 ((([] : List ByteArray) ++ ss3).length) cq8), (35, .string (xs.getD (((xs.length : Nat) : Int) - 1).toNat ByteArray.empty))] ((True) ∧ (True) ∧ True) rfl (by kernel_rfl) ⟨trivial, trivial, trivial⟩ ?_
        refine RunR.step (dst := some 36) (op := .buildSlice 33 1 #[(0, .tmp 35)]) (by kernel_rfl) (Step.lit_vals hU 9 16 (.string ⟨#[]⟩) (strV ([xs.getD (((xs.length : Nat) : Int) - 1).toNat ByteArray.empty] : List ByteArray)) (by kernel_rfl) (by kernel_rfl) (by kernel_rfl) (by simp [strV, Value.cells]) rfl rfl (by kernel_rfl) (fun b14 => ?_))
        refine RunR.step (dst := some 37) (op := .call { callee := .builtin .append, args := #[.tmp 34, .tmp 36], argTypes := #[33, 33] }) (by kernel_rfl) (Step.append_strs hU 9 16 (.string ⟨#[]⟩) 1 0 Aq7 ((([] : List ByteArray) ++ ss3).length) cq8 (([] : List ByteArray) ++ ss3) (some ⟨b14, 0, none⟩) 1 1 (row 9 1 (.slice (some ⟨b14, 0, none⟩) 1 1) 1 (strV ([xs.getD (((xs.length : Nat) : Int) - 1).toNat ByteArray.empty] : List ByteArray))) ([xs.getD (((xs.length : Nat) : Int) - 1).toNat ByteArray.empty] : List ByteArray) (by kernel_rfl) (by kernel_rfl) (by kernel_rfl) (by kernel_rfl) (by kernel_rfl) (by kernel_rfl) (by kernel_rfl) (tells_row _ _ _ _ _ _) (by first | rfl | omega | (simp only [List.length_cons, List.length_nil] at *; omega)) (by first | rfl | omega | (simp only [List.length_cons, List.length_nil] at *; omega)) (by first | rfl | omega | (simp only [List.length_cons, List.length_nil] at *; omega)) (by first | rfl | omega | (simp only [List.length_cons, List.length_nil] at *; omega)) (by kernel_rfl) (fun Aq15 cq16 hc17 hA18 => ?_))
        have hl19 : ((([] : List ByteArray) ++ ss3) ++ ([xs.getD (((xs.length : Nat) : Int) - 1).toNat ByteArray.empty] : List ByteArray)).length = (([] : List ByteArray) ++ ss3).length + ([xs.getD (((xs.length : Nat) : Int) - 1).toNat ByteArray.empty] : List ByteArray).length := List.length_append
        simp only [List.length_cons, List.length_nil] at hl19
        refine RunR.sil hU [] 3 7 [2, 3, 4, 5, 6] [(2, .slice Aq15 (((([] : List ByteArray) ++ ss3) ++ ([xs.getD (((xs.length : Nat) : Int) - 1).toNat ByteArray.empty] : List ByteArray)).length) cq16), (3, .int .i64 0), (4, .int .i64 0), (5, .slice Aq7 ((([] : List ByteArray) ++ ss3).length) cq8), (6, .string (xs.getD (((xs.length : Nat) : Int) - 1).toNat ByteArray.empty))] ((True) ∧ (True) ∧ (True) ∧ True) rfl (by kernel_rfl) ⟨trivial, trivial, trivial, trivial⟩ ?_
        refine RunR.done (by kernel_rfl) ?_
        refine kseq_n ?_
        refine RunC.ret ?_
        refine kseq_r ?_
        refine kret_r [.slice Aq15 (((([] : List ByteArray) ++ ss3) ++ ([xs.getD (((xs.length : Nat) : Int) - 1).toNat ByteArray.empty] : List ByteArray)).length) cq16, .int .i64 0, .int .i64 0] [0] [row 9 1 (.slice Aq15 (((([] : List ByteArray) ++ ss3) ++ ([xs.getD (((xs.length : Nat) : Int) - 1).toNat ByteArray.empty] : List ByteArray)).length) cq16) (((([] : List ByteArray) ++ ss3) ++ ([xs.getD (((xs.length : Nat) : Int) - 1).toNat ByteArray.empty] : List ByteArray)).length) (strV ((([] : List ByteArray) ++ ss3) ++ ([xs.getD (((xs.length : Nat) : Int) - 1).toNat ByteArray.empty] : List ByteArray)))] ⟨rfl, rfl, rfl, trivial⟩ (by kernel_rfl) rfl ⟨Aq15, cq16, ((([] : List ByteArray) ++ ss3) ++ ([xs.getD (((xs.length : Nat) : Int) - 1).toNat ByteArray.empty] : List ByteArray)), 0, 0, rfl, rfl, (by exact wr_2 (by assumption) hz4 (by assumption) (by first | assumption | exact short4 (by assumption))), (by first | assumption | (intro h; simp at h)), (by first | assumption | exact Nat.zero_le _)⟩
      · skip
        refine RunR.enveq [(2, .slice none 0 0), (3, .int .i64 0), (4, .int .i64 0), (5, .slice Aq7 ((([] : List ByteArray) ++ ss3).length) cq8), (6, .string (xs.getD (((xs.length : Nat) : Int) - 1).toNat ByteArray.empty)), (29, .bool false)] (by rw [decide_eq_false h13]; try rfl) ?_
        refine RunR.sil hU [] 4 8 [2, 3, 4, 5, 6, 33] [(2, .slice none 0 0), (3, .int .i64 0), (4, .int .i64 0), (5, .slice Aq7 ((([] : List ByteArray) ++ ss3).length) cq8), (6, .string (xs.getD (((xs.length : Nat) : Int) - 1).toNat ByteArray.empty)), (33, .bool (!decide ((ByteArray.extract (xs.getD (((xs.length : Nat) : Int) - 1).toNat ByteArray.empty) 0 4) = ⟨#[46, 119, 104, 46]⟩)))] ((True) ∧ (0 ≤ (4 : Int) ∧ (4 : Int) ≤ (xs.getD (((xs.length : Nat) : Int) - 1).toNat ByteArray.empty : ByteArray).size) ∧ (True) ∧ (True) ∧ True) rfl (by kernel_rfl) ⟨trivial, (by omega), trivial, trivial, trivial⟩ ?_
        refine RunR.done (by kernel_rfl) ?_
        refine kseq_n ?_
        refine RunC.condn ((ByteArray.extract (xs.getD (((xs.length : Nat) : Int) - 1).toNat ByteArray.empty) 0 4) = ⟨#[46, 119, 104, 46]⟩) (by kernel_rfl) (fun h20 => ?_) (fun h20 => ?_)
        · skip
          refine RunC.seq ?_
          refine RunC.region ?_
          refine RunR.sil hU [] 2 2 [2, 3, 4, 5, 6, 34, 35] [(2, .slice none 0 0), (3, .int .i64 0), (4, .int .i64 0), (5, .slice Aq7 ((([] : List ByteArray) ++ ss3).length) cq8), (6, .string (xs.getD (((xs.length : Nat) : Int) - 1).toNat ByteArray.empty)), (34, .slice Aq7 ((([] : List ByteArray) ++ ss3).length) cq8), (35, .string (xs.getD (((xs.length : Nat) : Int) - 1).toNat ByteArray.empty))] ((True) ∧ (True) ∧ True) rfl (by kernel_rfl) ⟨trivial, trivial, trivial⟩ ?_
          refine RunR.step (dst := some 36) (op := .buildSlice 33 1 #[(0, .tmp 35)]) (by kernel_rfl) (Step.lit_vals hU 9 16 (.string ⟨#[]⟩) (strV ([xs.getD (((xs.length : Nat) : Int) - 1).toNat ByteArray.empty] : List ByteArray)) (by kernel_rfl) (by kernel_rfl) (by kernel_rfl) (by simp [strV, Value.cells]) rfl rfl (by kernel_rfl) (fun b21 => ?_))
          refine RunR.step (dst := some 37) (op := .call { callee := .builtin .append, args := #[.tmp 34, .tmp 36], argTypes := #[33, 33] }) (by kernel_rfl) (Step.append_strs hU 9 16 (.string ⟨#[]⟩) 1 0 Aq7 ((([] : List ByteArray) ++ ss3).length) cq8 (([] : List ByteArray) ++ ss3) (some ⟨b21, 0, none⟩) 1 1 (row 9 1 (.slice (some ⟨b21, 0, none⟩) 1 1) 1 (strV ([xs.getD (((xs.length : Nat) : Int) - 1).toNat ByteArray.empty] : List ByteArray))) ([xs.getD (((xs.length : Nat) : Int) - 1).toNat ByteArray.empty] : List ByteArray) (by kernel_rfl) (by kernel_rfl) (by kernel_rfl) (by kernel_rfl) (by kernel_rfl) (by kernel_rfl) (by kernel_rfl) (tells_row _ _ _ _ _ _) (by first | rfl | omega | (simp only [List.length_cons, List.length_nil] at *; omega)) (by first | rfl | omega | (simp only [List.length_cons, List.length_nil] at *; omega)) (by first | rfl | omega | (simp only [List.length_cons, List.length_nil] at *; omega)) (by first | rfl | omega | (simp only [List.length_cons, List.length_nil] at *; omega)) (by kernel_rfl) (fun Aq22 cq23 hc24 hA25 => ?_))
          have hl26 : ((([] : List ByteArray) ++ ss3) ++ ([xs.getD (((xs.length : Nat) : Int) - 1).toNat ByteArray.empty] : List ByteArray)).length = (([] : List ByteArray) ++ ss3).length + ([xs.getD (((xs.length : Nat) : Int) - 1).toNat ByteArray.empty] : List ByteArray).length := List.length_append
          simp only [List.length_cons, List.length_nil] at hl26
          refine RunR.sil hU [] 3 7 [2, 3, 4, 5, 6] [(2, .slice Aq22 (((([] : List ByteArray) ++ ss3) ++ ([xs.getD (((xs.length : Nat) : Int) - 1).toNat ByteArray.empty] : List ByteArray)).length) cq23), (3, .int .i64 0), (4, .int .i64 0), (5, .slice Aq7 ((([] : List ByteArray) ++ ss3).length) cq8), (6, .string (xs.getD (((xs.length : Nat) : Int) - 1).toNat ByteArray.empty))] ((True) ∧ (True) ∧ (True) ∧ True) rfl (by kernel_rfl) ⟨trivial, trivial, trivial, trivial⟩ ?_
          refine RunR.done (by kernel_rfl) ?_
          refine kseq_n ?_
          refine RunC.ret ?_
          refine kseq_r ?_
          refine kret_r [.slice Aq22 (((([] : List ByteArray) ++ ss3) ++ ([xs.getD (((xs.length : Nat) : Int) - 1).toNat ByteArray.empty] : List ByteArray)).length) cq23, .int .i64 0, .int .i64 0] [0] [row 9 1 (.slice Aq22 (((([] : List ByteArray) ++ ss3) ++ ([xs.getD (((xs.length : Nat) : Int) - 1).toNat ByteArray.empty] : List ByteArray)).length) cq23) (((([] : List ByteArray) ++ ss3) ++ ([xs.getD (((xs.length : Nat) : Int) - 1).toNat ByteArray.empty] : List ByteArray)).length) (strV ((([] : List ByteArray) ++ ss3) ++ ([xs.getD (((xs.length : Nat) : Int) - 1).toNat ByteArray.empty] : List ByteArray)))] ⟨rfl, rfl, rfl, trivial⟩ (by kernel_rfl) rfl ⟨Aq22, cq23, ((([] : List ByteArray) ++ ss3) ++ ([xs.getD (((xs.length : Nat) : Int) - 1).toNat ByteArray.empty] : List ByteArray)), 0, 0, rfl, rfl, (by exact wr_2 (by assumption) hz4 (by assumption) (by first | assumption | exact short4 (by assumption))), (by first | assumption | (intro h; simp at h)), (by first | assumption | exact Nat.zero_le _)⟩
        · skip
          refine RunC.skip ?_
          refine kseq_n ?_
          refine RunC.seq ?_
          refine RunC.seq ?_
          refine RunC.region ?_
          refine RunR.sil hU [] 2 2 [2, 3, 4, 5, 6, 39] [(2, .slice none 0 0), (3, .int .i64 0), (4, .int .i64 0), (5, .slice Aq7 ((([] : List ByteArray) ++ ss3).length) cq8), (6, .string (xs.getD (((xs.length : Nat) : Int) - 1).toNat ByteArray.empty)), (39, .string (ByteArray.extract (xs.getD (((xs.length : Nat) : Int) - 1).toNat ByteArray.empty) 4 ((xs.getD (((xs.length : Nat) : Int) - 1).toNat ByteArray.empty : ByteArray).size)))] ((True) ∧ (0 ≤ (4 : Int) ∧ (4 : Int) ≤ (xs.getD (((xs.length : Nat) : Int) - 1).toNat ByteArray.empty : ByteArray).size) ∧ True) rfl (by kernel_rfl) ⟨trivial, (by omega), trivial⟩ ?_
          refine RunR.step (dst := some 40) (op := .call { callee := .value (.func 34), args := #[.tmp 39], argTypes := #[9] }) (by kernel_rfl) (Step.call 34 [.string (ByteArray.extract (xs.getD (((xs.length : Nat) : Int) - 1).toNat ByteArray.empty) 4 ((xs.getD (((xs.length : Nat) : Int) - 1).toNat ByteArray.empty : ByteArray).size))] (by kernel_rfl) (by kernel_rfl) [] [] [row 9 1 (.slice Aq7 ((([] : List ByteArray) ++ ss3).length) cq8) ((([] : List ByteArray) ++ ss3).length) (strV (([] : List ByteArray) ++ ss3)), vw A8 (strV xs)] (pr_may_spec (ByteArray.extract (xs.getD (((xs.length : Nat) : Int) - 1).toNat ByteArray.empty) 4 ((xs.getD (((xs.length : Nat) : Int) - 1).toNat ByteArray.empty : ByteArray).size)) (by first | exact (by have h_ := hM.le ((xs.length : Int) - 1).toNat; omega) | exact ext_bd (by have h_ := hM.le ((xs.length : Int) - 1).toNat; omega))) [] (by kernel_rfl) (Lend.nil _) ?_)
          rintro _ _ ⟨rfl, rfl⟩
          refine RunR.sil hU [] 1 4 [2, 3, 4, 5, 6, 41] [(2, .slice none 0 0), (3, .int .i64 0), (4, .int .i64 0), (5, .slice Aq7 ((([] : List ByteArray) ++ ss3).length) cq8), (6, .string (xs.getD (((xs.length : Nat) : Int) - 1).toNat ByteArray.empty)), (41, .bool (!decide (mayP (sb (ByteArray.extract (xs.getD (((xs.length : Nat) : Int) - 1).toNat ByteArray.empty) 4 ((xs.getD (((xs.length : Nat) : Int) - 1).toNat ByteArray.empty : ByteArray).size))))))] ((True) ∧ True) rfl (by kernel_rfl) ⟨trivial, trivial⟩ ?_
          refine RunR.done (by kernel_rfl) ?_
          refine kseq_n ?_
          refine RunC.condn (mayP (sb (ByteArray.extract (xs.getD (((xs.length : Nat) : Int) - 1).toNat ByteArray.empty) 4 ((xs.getD (((xs.length : Nat) : Int) - 1).toNat ByteArray.empty : ByteArray).size)))) (by kernel_rfl) (fun h27 => ?_) (fun h27 => ?_)
          · skip
            refine RunC.seq ?_
            refine RunC.region ?_
            refine RunR.sil hU [] 3 3 [2, 3, 4, 5, 6] [(2, .slice none 0 0), (3, .int .i64 0), (4, .int .i64 12), (5, .slice Aq7 ((([] : List ByteArray) ++ ss3).length) cq8), (6, .string (xs.getD (((xs.length : Nat) : Int) - 1).toNat ByteArray.empty))] ((True) ∧ (True) ∧ (True) ∧ True) rfl (by kernel_rfl) ⟨trivial, trivial, trivial, trivial⟩ ?_
            refine RunR.done (by kernel_rfl) ?_
            refine kseq_n ?_
            refine RunC.ret ?_
            refine kseq_r ?_
            refine kret_rt ([row 9 1 (.slice none 0 0) 0 (strV ([] : List ByteArray)), row 9 1 (.slice Aq7 ((([] : List ByteArray) ++ ss3).length) cq8) ((([] : List ByteArray) ++ ss3).length) (strV (([] : List ByteArray) ++ ss3)), vw A8 (strV xs)]) (fun w0 W w hs => (hs).nil_row 9 1) [.slice none 0 0, .int .i64 0, .int .i64 12] [0] [row 9 1 (.slice none 0 0) 0 (strV ([] : List ByteArray))] ⟨rfl, rfl, rfl, trivial⟩ (by kernel_rfl) rfl ⟨none, 0, ([] : List ByteArray), 0, 12, rfl, rfl, (by exact wh_3 (by assumption) (by assumption) (by assumption) (by assumption)), (by first | assumption | (intro h; simp at h)), (by first | assumption | exact Nat.zero_le _)⟩
          · skip
            refine RunC.skip ?_
            refine kseq_n ?_
            refine RunC.seq ?_
            refine RunC.region ?_
            refine RunR.sil hU [] 3 3 [2, 3, 4, 42, 44] [(2, .slice none 0 0), (3, .int .i64 0), (4, .int .i64 0), (42, .slice Aq7 ((([] : List ByteArray) ++ ss3).length) cq8), (44, .string (ByteArray.extract (xs.getD (((xs.length : Nat) : Int) - 1).toNat ByteArray.empty) 4 ((xs.getD (((xs.length : Nat) : Int) - 1).toNat ByteArray.empty : ByteArray).size)))] ((True) ∧ (True) ∧ (0 ≤ (4 : Int) ∧ (4 : Int) ≤ (xs.getD (((xs.length : Nat) : Int) - 1).toNat ByteArray.empty : ByteArray).size) ∧ True) rfl (by kernel_rfl) ⟨trivial, trivial, (by omega), trivial⟩ ?_
            refine RunR.step (dst := some 45) (op := .buildSlice 33 1 #[(0, .tmp 44)]) (by kernel_rfl) (Step.lit_vals hU 9 16 (.string ⟨#[]⟩) (strV ([ByteArray.extract (xs.getD (((xs.length : Nat) : Int) - 1).toNat ByteArray.empty) 4 ((xs.getD (((xs.length : Nat) : Int) - 1).toNat ByteArray.empty : ByteArray).size)] : List ByteArray)) (by kernel_rfl) (by kernel_rfl) (by kernel_rfl) (by simp [strV, Value.cells]) rfl rfl (by kernel_rfl) (fun b28 => ?_))
            refine RunR.step (dst := some 46) (op := .call { callee := .builtin .append, args := #[.tmp 42, .tmp 45], argTypes := #[33, 33] }) (by kernel_rfl) (Step.append_strs hU 9 16 (.string ⟨#[]⟩) 1 0 Aq7 ((([] : List ByteArray) ++ ss3).length) cq8 (([] : List ByteArray) ++ ss3) (some ⟨b28, 0, none⟩) 1 1 (row 9 1 (.slice (some ⟨b28, 0, none⟩) 1 1) 1 (strV ([ByteArray.extract (xs.getD (((xs.length : Nat) : Int) - 1).toNat ByteArray.empty) 4 ((xs.getD (((xs.length : Nat) : Int) - 1).toNat ByteArray.empty : ByteArray).size)] : List ByteArray))) ([ByteArray.extract (xs.getD (((xs.length : Nat) : Int) - 1).toNat ByteArray.empty) 4 ((xs.getD (((xs.length : Nat) : Int) - 1).toNat ByteArray.empty : ByteArray).size)] : List ByteArray) (by kernel_rfl) (by kernel_rfl) (by kernel_rfl) (by kernel_rfl) (by kernel_rfl) (by kernel_rfl) (by kernel_rfl) (tells_row _ _ _ _ _ _) (by first | rfl | omega | (simp only [List.length_cons, List.length_nil] at *; omega)) (by first | rfl | omega | (simp only [List.length_cons, List.length_nil] at *; omega)) (by first | rfl | omega | (simp only [List.length_cons, List.length_nil] at *; omega)) (by first | rfl | omega | (simp only [List.length_cons, List.length_nil] at *; omega)) (by kernel_rfl) (fun Aq29 cq30 hc31 hA32 => ?_))
            have hl33 : ((([] : List ByteArray) ++ ss3) ++ ([ByteArray.extract (xs.getD (((xs.length : Nat) : Int) - 1).toNat ByteArray.empty) 4 ((xs.getD (((xs.length : Nat) : Int) - 1).toNat ByteArray.empty : ByteArray).size)] : List ByteArray)).length = (([] : List ByteArray) ++ ss3).length + ([ByteArray.extract (xs.getD (((xs.length : Nat) : Int) - 1).toNat ByteArray.empty) 4 ((xs.getD (((xs.length : Nat) : Int) - 1).toNat ByteArray.empty : ByteArray).size)] : List ByteArray).length := List.length_append
            simp only [List.length_cons, List.length_nil] at hl33
            refine RunR.sil hU [] 3 8 [2, 3, 4] [(2, .slice Aq29 (((([] : List ByteArray) ++ ss3) ++ ([ByteArray.extract (xs.getD (((xs.length : Nat) : Int) - 1).toNat ByteArray.empty) 4 ((xs.getD (((xs.length : Nat) : Int) - 1).toNat ByteArray.empty : ByteArray).size)] : List ByteArray)).length) cq30), (3, .int .i64 1), (4, .int .i64 0)] ((True) ∧ (True) ∧ (True) ∧ True) rfl (by kernel_rfl) ⟨trivial, trivial, trivial, trivial⟩ ?_
            refine RunR.done (by kernel_rfl) ?_
            refine kseq_n ?_
            refine RunC.ret ?_
            refine kret_r [.slice Aq29 (((([] : List ByteArray) ++ ss3) ++ ([ByteArray.extract (xs.getD (((xs.length : Nat) : Int) - 1).toNat ByteArray.empty) 4 ((xs.getD (((xs.length : Nat) : Int) - 1).toNat ByteArray.empty : ByteArray).size)] : List ByteArray)).length) cq30, .int .i64 1, .int .i64 0] [0] [row 9 1 (.slice Aq29 (((([] : List ByteArray) ++ ss3) ++ ([ByteArray.extract (xs.getD (((xs.length : Nat) : Int) - 1).toNat ByteArray.empty) 4 ((xs.getD (((xs.length : Nat) : Int) - 1).toNat ByteArray.empty : ByteArray).size)] : List ByteArray)).length) cq30) (((([] : List ByteArray) ++ ss3) ++ ([ByteArray.extract (xs.getD (((xs.length : Nat) : Int) - 1).toNat ByteArray.empty) 4 ((xs.getD (((xs.length : Nat) : Int) - 1).toNat ByteArray.empty : ByteArray).size)] : List ByteArray)).length) (strV ((([] : List ByteArray) ++ ss3) ++ ([ByteArray.extract (xs.getD (((xs.length : Nat) : Int) - 1).toNat ByteArray.empty) 4 ((xs.getD (((xs.length : Nat) : Int) - 1).toNat ByteArray.empty : ByteArray).size)] : List ByteArray)))] ⟨rfl, rfl, rfl, trivial⟩ (by kernel_rfl) rfl ⟨Aq29, cq30, ((([] : List ByteArray) ++ ss3) ++ ([ByteArray.extract (xs.getD (((xs.length : Nat) : Int) - 1).toNat ByteArray.empty) 4 ((xs.getD (((xs.length : Nat) : Int) - 1).toNat ByteArray.empty : ByteArray).size)] : List ByteArray)), 1, 0, rfl, rfl, (by exact wr_4 (by assumption) hz4 (by assumption) (by assumption) (by assumption)), (by first | assumption | (intro h; simp at h)), (by first | assumption | exact Nat.zero_le _)⟩

theorem p_White_spec (A8 : Option Addr) (c8 : Nat) (xs : List ByteArray) (l_xs : Nat) (hn : xs.length ≤ 32) (hM : MayAll xs) (hC : xs.length ≤ c8) (hA8 : 0 < xs.length → Option.isSome A8 = true) (hl_xs : xs.length = l_xs) :
    CallsS Tryd.prog 23 [.slice A8 l_xs c8] [vw A8 (strV xs)] (fun r D => ∃ (A9 : Option Addr) (c9 : Nat) (zs : List ByteArray) (k : Int) (e : Int), r = .tuple #[.slice A9 zs.length c9, .int .i64 k, .int .i64 e] ∧ D = [row 9 1 (.slice A9 zs.length c9) zs.length (strV zs)] ∧ ((zs, k, e) = whP xs) ∧ (0 < zs.length → Option.isSome A9 = true) ∧ (zs.length ≤ c9)) := by
  subst hl_xs
  refine CallsS.enter hU Tryd.f23 _ [.tmp 2, .tmp 3, .tmp 4] 46 Tryd.func23 rfl (by decide) rfl rfl (by kernel_rfl) fun w0 W => ?_
  refine RunC.seq ?_
  refine RunC.region ?_
  refine RunR.sil hU [] 3 3 [0, 2, 3, 4] [(0, .slice A8 xs.length c8), (2, .slice none 0 0), (3, .int .i64 0), (4, .int .i64 0)] ((True) ∧ (True) ∧ (True) ∧ True) rfl (by kernel_rfl) ⟨trivial, trivial, trivial, trivial⟩ ?_
  refine RunR.done (by kernel_rfl) ?_
  refine kseq_n ?_
  refine RunC.seq ?_
  refine RunC.seq ?_
  refine RunC.region ?_
  refine RunR.sil hU [] 3 3 [0, 2, 3, 4, 11] [(0, .slice A8 xs.length c8), (2, .slice none 0 0), (3, .int .i64 0), (4, .int .i64 0), (11, .bool (decide (((xs.length : Nat) : Int) = 0)))] ((True) ∧ (True) ∧ (True) ∧ True) rfl (by kernel_rfl) ⟨trivial, trivial, trivial, trivial⟩ ?_
  refine RunR.done (by kernel_rfl) ?_
  refine kseq_n ?_
  refine RunC.condp (((xs.length : Nat) : Int) = 0) (by kernel_rfl) (fun h1 => ?_) (fun h1 => ?_)
  · skip
    refine RunC.seq ?_
    refine RunC.region ?_
    refine RunR.sil hU [] 3 3 [0, 2, 3, 4] [(0, .slice A8 xs.length c8), (2, .slice none 0 0), (3, .int .i64 0), (4, .int .i64 0)] ((True) ∧ (True) ∧ (True) ∧ True) rfl (by kernel_rfl) ⟨trivial, trivial, trivial, trivial⟩ ?_
    refine RunR.done (by kernel_rfl) ?_
    refine kseq_n ?_
    refine RunC.ret ?_
    refine kseq_r ?_
    refine kret_rt ([row 9 1 (.slice none 0 0) 0 (strV ([] : List ByteArray)), vw A8 (strV xs)]) (fun w0 W w hs => (hs).nil_row 9 1) [.slice none 0 0, .int .i64 0, .int .i64 0] [0] [row 9 1 (.slice none 0 0) 0 (strV ([] : List ByteArray))] ⟨rfl, rfl, rfl, trivial⟩ (by kernel_rfl) rfl ⟨none, 0, ([] : List ByteArray), 0, 0, rfl, rfl, (by exact wh_0 (by assumption)), (by first | assumption | (intro h; simp at h)), (by first | assumption | exact Nat.zero_le _)⟩
  · skip
    refine RunC.skip ?_
    refine kseq_n ?_
    refine RunC.seq ?_
    refine RunC.regionU hU 14 [vw A8 (strV xs)] [0] [13] (bm 14 0) (by kernel_rfl) (by kernel_rfl) (by kernel_rfl) ?_
    refine RunU.sil hU false 0 (bm 14 1) 12 (.slice A8 xs.length c8) (True) (by kernel_rfl) trivial (by kernel_rfl) (by kernel_rfl) (fun _ _ _ h => h) ?_
    refine RunU.sil hU false 1 (bm 14 3) 13 (.slice A8 xs.length c8) (True) (by kernel_rfl) trivial (by kernel_rfl) (by kernel_rfl) (fun _ _ _ h => h) ?_
    refine RunU.sil hU false 2 (bm 14 7) 14 (.int .i64 ((xs.length : Nat) : Int)) (True) (by kernel_rfl) trivial (by kernel_rfl) (by kernel_rfl) (fun _ _ _ h => h) ?_
    refine RunU.sil hU true 3 (bm 14 15) 15 (.int .i64 (((xs.length : Nat) : Int) - 1)) (-9223372036854775808 ≤ (((xs.length : Nat) : Int) - 1) ∧ (((xs.length : Nat) : Int) - 1) < 9223372036854775808) (by kernel_rfl) (by omega) (by kernel_rfl) (by kernel_rfl) (fun _ _ _ h => h) ?_
    refine RunU.sil hU false 4 (bm 14 31) 16 (.slice A8 ((((xs.length : Nat) : Int) - 1).toNat) c8) (0 ≤ (((xs.length : Nat) : Int) - 1) ∧ (((xs.length : Nat) : Int) - 1) ≤ ((c8 : Nat) : Int)) (by kernel_rfl) (by omega) (by kernel_rfl) (by kernel_rfl) (fun _ _ _ h => h) ?_
    obtain ⟨ss2, hz3⟩ : ∃ z : List ByteArray, z = xs.take ((((xs.length : Nat) : Int) - 1).toNat) := ⟨_, rfl⟩
    have hl4 : ss2.length = (((xs.length : Nat) : Int) - 1).toNat := by rw [hz3, List.length_take]; omega
    have hB5_t : Tells (vw A8 (strV xs)) (A8) (strV ss2) := by rw [hz3]; exact tells_take_strs (tells_vw _ _) _
    refine RunU.sil hU false 6 (bm 14 95) 18 (.slice A8 xs.length c8) (True) (by kernel_rfl) trivial (by kernel_rfl) (by kernel_rfl) (fun _ _ _ h => h) ?_
    refine RunU.sil hU false 7 (bm 14 223) 19 (.slice A8 xs.length c8) (True) (by kernel_rfl) trivial (by kernel_rfl) (by kernel_rfl) (fun _ _ _ h => h) ?_
    refine RunU.sil hU false 8 (bm 14 479) 20 (.int .i64 ((xs.length : Nat) : Int)) (True) (by kernel_rfl) trivial (by kernel_rfl) (by kernel_rfl) (fun _ _ _ h => h) ?_
    refine RunU.sil hU true 9 (bm 14 991) 21 (.int .i64 (((xs.length : Nat) : Int) - 1)) (-9223372036854775808 ≤ (((xs.length : Nat) : Int) - 1) ∧ (((xs.length : Nat) : Int) - 1) < 9223372036854775808) (by kernel_rfl) (by omega) (by kernel_rfl) (by kernel_rfl) (fun _ _ _ h => h) ?_
    refine RunU.sil hU false 10 (bm 14 2015) 22 (.pointer (elemAt A8 (((xs.length : Nat) : Int) - 1) 1)) ((0 ≤ (((xs.length : Nat) : Int) - 1) ∧ (((xs.length : Nat) : Int) - 1) < ((xs.length : Nat) : Int)) ∧ Option.isSome A8 = true) (by kernel_rfl) ⟨by omega, hA8 (by omega)⟩ (by kernel_rfl) (by kernel_rfl) (fun _ _ _ h => h) ?_
    refine RunU.read 11 (bm 14 4063) 23 (.load 9 (.tmp 22)) (.string (xs.getD (((xs.length : Nat) : Int) - 1).toNat ByteArray.empty)) [0] (by kernel_rfl) (Reads.load hU 0 (vw A8 (strV xs)) A8 (((xs.length : Nat) : Int) - 1) 1 (strV xs) (.string (xs.getD (((xs.length : Nat) : Int) - 1).toNat ByteArray.empty)) (by kernel_rfl) (by kernel_rfl) (tells_vw _ _) (by rw [strV_len]; omega) (loadv_str (by kernel_rfl) (by omega))) (by kernel_rfl) (by kernel_rfl) (by kernel_rfl) (by kernel_rfl) (fun _ _ _ h => h) ?_
    refine RunU.one (dst := some 17) (op := .call { callee := .value (.func 36), args := #[.tmp 16], argTypes := #[33] }) 5 (bm 14 4095) [1] (by kernel_rfl) (by kernel_rfl) (Step.call 36 [.slice A8 ((((xs.length : Nat) : Int) - 1).toNat) c8] (by kernel_rfl) (by kernel_rfl) [] [vw A8 (strV ss2)] [vw A8 (strV xs)] (s_Clone_spec A8 c8 ss2 ((((xs.length : Nat) : Int) - 1).toNat) (by first | assumption | omega | (simp only [List.length_append, List.length_cons, List.length_nil, List.length_set, List.length_replicate, List.length_take, List.length_drop]; omega) | (simp only [fits] at *; omega) | (simp only [List.length_append, List.length_cons, List.length_nil, List.length_set, List.length_replicate, List.length_take, List.length_drop] at *; omega) | (simp; done) | decide) (by exact (hM.tail (a := 0) hz3).sz) (by first | assumption | omega | (simp only [List.length_append, List.length_cons, List.length_nil, List.length_set, List.length_replicate, List.length_take, List.length_drop]; omega) | (simp only [fits] at *; omega) | (simp only [List.length_append, List.length_cons, List.length_nil, List.length_set, List.length_replicate, List.length_take, List.length_drop] at *; omega) | (simp; done) | decide) (by exact fun h => hA8 (by omega)) (by first | rfl | assumption | omega | (simp only [List.length_append, List.length_cons, List.length_nil, List.length_set, List.length_replicate, List.length_take, List.length_drop]; omega) | (simp; done))) [] (by kernel_rfl) ((Lend.nil _).tells 0 (vw A8 (strV xs)) A8 (strV ss2) (by kernel_rfl) (hB5_t)) ?_)
    rintro _ _ ⟨A96, c97, zs8, rfl, rfl, hp9, hp10, hp11⟩
    have hq12 := congrArg List.length hp9
    refine ⟨.inl (by kernel_rfl), ?_⟩
    refine RunU.sil hU false 12 (bm 14 8191) 5 (.slice A96 zs8.length c97) (True) (by kernel_rfl) trivial (by kernel_rfl) (by kernel_rfl) (fun _ _ _ h => h) ?_
    refine RunU.sil hU false 13 (bm 14 16383) 6 (.string (xs.getD (((xs.length : Nat) : Int) - 1).toNat ByteArray.empty)) (True) (by kernel_rfl) trivial (by kernel_rfl) (by kernel_rfl) (fun _ _ _ h => h) ?_
    refine RunU.env [0, 2, 3, 4, 5, 6] [(0, .slice A8 xs.length c8), (2, .slice none 0 0), (3, .int .i64 0), (4, .int .i64 0), (5, .slice A96 zs8.length c97), (6, .string (xs.getD (((xs.length : Nat) : Int) - 1).toNat ByteArray.empty))] (by kernel_rfl) ?_
    refine RunU.done (by kernel_rfl) ?_
    refine kseq_n ?_
    refine RunC.seq ?_
    refine RunC.region ?_
    refine RunR.sil hU [] 1 1 [0, 2, 3, 4, 5, 6, 25] [(0, .slice A8 xs.length c8), (2, .slice none 0 0), (3, .int .i64 0), (4, .int .i64 0), (5, .slice A96 zs8.length c97), (6, .string (xs.getD (((xs.length : Nat) : Int) - 1).toNat ByteArray.empty)), (25, .string (xs.getD (((xs.length : Nat) : Int) - 1).toNat ByteArray.empty))] ((True) ∧ True) rfl (by kernel_rfl) ⟨trivial, trivial⟩ ?_
    refine RunR.step (dst := some 26) (op := .call { callee := .value (.func 37), args := #[.tmp 25, .const (.string ⟨#[46, 119, 104, 46]⟩)], argTypes := #[9, 9] }) (by kernel_rfl) (Step.call 37 [.string (xs.getD (((xs.length : Nat) : Int) - 1).toNat ByteArray.empty), .string ⟨#[46, 119, 104, 46]⟩] (by kernel_rfl) (by kernel_rfl) [] [] [row 9 1 (.slice A96 zs8.length c97) zs8.length (strV zs8), vw A8 (strV xs)] (s_Cut_spec (xs.getD (((xs.length : Nat) : Int) - 1).toNat ByteArray.empty) (by first | exact (by have h_ := hM.le ((xs.length : Int) - 1).toNat; omega) | exact ext_bd (by have h_ := hM.le ((xs.length : Int) - 1).toNat; omega))) [] (by kernel_rfl) (Lend.nil _) ?_)
    rintro _ _ ⟨rz13, rfl, rfl, hp14⟩
    refine RunR.sil hU [] 5 7 [0, 2, 3, 4, 5, 6, 7, 8] [(0, .slice A8 xs.length c8), (2, .slice none 0 0), (3, .int .i64 0), (4, .int .i64 0), (5, .slice A96 zs8.length c97), (6, .string (xs.getD (((xs.length : Nat) : Int) - 1).toNat ByteArray.empty)), (7, .string rz13), (8, .bool (decide (ByteArray.extract (xs.getD (((xs.length : Nat) : Int) - 1).toNat ByteArray.empty) 0 4 = WH)))] ((True) ∧ (True) ∧ (True) ∧ (True) ∧ (True) ∧ True) rfl (by kernel_rfl) ⟨trivial, trivial, trivial, trivial, trivial, trivial⟩ ?_
    refine RunR.done (by kernel_rfl) ?_
    refine kseq_n ?_
    refine RunC.seq ?_
    refine RunC.block ?_
    refine RunC.seq ?_
    refine RunC.region ?_
    refine RunR.sil hU [] 3 3 [0, 2, 3, 4, 5, 7, 8, 29] [(0, .slice A8 xs.length c8), (2, .slice none 0 0), (3, .int .i64 0), (4, .int .i64 0), (5, .slice A96 zs8.length c97), (7, .string rz13), (8, .bool (decide (ByteArray.extract (xs.getD (((xs.length : Nat) : Int) - 1).toNat ByteArray.empty) 0 4 = WH))), (29, .bool (decide ((xs.getD (((xs.length : Nat) : Int) - 1).toNat ByteArray.empty) = ⟨#[46, 119, 104, 46, 46, 119, 104, 46, 46, 111, 112, 113]⟩)))] ((True) ∧ (True) ∧ (True) ∧ True) rfl (by kernel_rfl) ⟨trivial, trivial, trivial, trivial⟩ ?_
    refine RunR.done (by kernel_rfl) ?_
    refine kseq_n ?_
    refine RunC.condp ((xs.getD (((xs.length : Nat) : Int) - 1).toNat ByteArray.empty) = ⟨#[46, 119, 104, 46, 46, 119, 104, 46, 46, 111, 112, 113]⟩) (by kernel_rfl) (fun h15 => ?_) (fun h15 => ?_)
    · skip
      refine RunC.seq ?_
      refine RunC.region ?_
      refine RunR.sil hU [] 4 4 [2, 3, 4, 5, 7] [(2, .slice A96 zs8.length c97), (3, .int .i64 2), (4, .int .i64 0), (5, .slice A96 zs8.length c97), (7, .string rz13)] ((True) ∧ (True) ∧ (True) ∧ (True) ∧ True) rfl (by kernel_rfl) ⟨trivial, trivial, trivial, trivial, trivial⟩ ?_
      refine RunR.done (by kernel_rfl) ?_
      refine kseq_n ?_
      refine RunC.ret ?_
      refine kblock_r ?_
      refine kseq_r ?_
      refine kret_r [.slice A96 zs8.length c97, .int .i64 2, .int .i64 0] [0] [row 9 1 (.slice A96 zs8.length c97) zs8.length (strV zs8)] ⟨rfl, rfl, rfl, trivial⟩ (by kernel_rfl) rfl ⟨A96, c97, zs8, 2, 0, rfl, rfl, (by exact wr_1 (by assumption) (hp9.trans hz3) (by assumption)), (by first | assumption | (intro h; simp at h)), (by first | assumption | exact Nat.zero_le _)⟩
    · skip
      refine RunC.seq ?_
      refine RunC.region ?_
      refine RunR.sil hU [] 3 3 [0, 2, 3, 4, 5, 7, 33] [(0, .slice A8 xs.length c8), (2, .slice none 0 0), (3, .int .i64 0), (4, .int .i64 0), (5, .slice A96 zs8.length c97), (7, .string rz13), (33, .bool (!decide (ByteArray.extract (xs.getD (((xs.length : Nat) : Int) - 1).toNat ByteArray.empty) 0 4 = WH)))] ((True) ∧ (True) ∧ (True) ∧ True) rfl (by kernel_rfl) ⟨trivial, trivial, trivial, trivial⟩ ?_
      refine RunR.done (by kernel_rfl) ?_
      refine kseq_n ?_
      refine RunC.condn (ByteArray.extract (xs.getD (((xs.length : Nat) : Int) - 1).toNat ByteArray.empty) 0 4 = WH) (by kernel_rfl) (fun h16 => ?_) (fun h16 => ?_)
      · skip
        refine RunC.seq ?_
        refine RunC.region ?_
        refine RunR.sil hU [] 1 1 [2, 3, 4, 5, 7, 36] [(2, .slice none 0 0), (3, .int .i64 0), (4, .int .i64 0), (5, .slice A96 zs8.length c97), (7, .string rz13), (36, .slice A8 xs.length c8)] ((True) ∧ True) rfl (by kernel_rfl) ⟨trivial, trivial⟩ ?_
        refine RunR.step (dst := some 37) (op := .call { callee := .value (.func 36), args := #[.tmp 36], argTypes := #[33] }) (by kernel_rfl) (Step.call 36 [.slice A8 xs.length c8] (by kernel_rfl) (by kernel_rfl) [] [vw A8 (strV xs)] [row 9 1 (.slice A96 zs8.length c97) zs8.length (strV zs8), vw A8 (strV xs)] (s_Clone_spec A8 c8 xs xs.length (by first | assumption | omega | (simp only [List.length_append, List.length_cons, List.length_nil, List.length_set, List.length_replicate, List.length_take, List.length_drop]; omega) | (simp only [fits] at *; omega) | (simp only [List.length_append, List.length_cons, List.length_nil, List.length_set, List.length_replicate, List.length_take, List.length_drop] at *; omega) | (simp; done) | decide) (by exact hM.sz) (by first | assumption | omega | (simp only [List.length_append, List.length_cons, List.length_nil, List.length_set, List.length_replicate, List.length_take, List.length_drop]; omega) | (simp only [fits] at *; omega) | (simp only [List.length_append, List.length_cons, List.length_nil, List.length_set, List.length_replicate, List.length_take, List.length_drop] at *; omega) | (simp; done) | decide) (fun h => hA8 (by first | exact h | (simp at h ⊢; omega))) (by first | rfl | assumption | omega | (simp only [List.length_append, List.length_cons, List.length_nil, List.length_set, List.length_replicate, List.length_take, List.length_drop]; omega) | (simp; done))) [] (by kernel_rfl) ((Lend.nil _).tells 1 (vw A8 (strV xs)) A8 (strV xs) (by kernel_rfl) (tells_vw _ _)) ?_)
        rintro _ _ ⟨A917, c918, zs19, rfl, rfl, hp20, hp21, hp22⟩
        have hq23 := congrArg List.length hp20
        refine RunR.sil hU [] 3 5 [2, 3, 4, 5, 7] [(2, .slice A917 zs19.length c918), (3, .int .i64 0), (4, .int .i64 0), (5, .slice A96 zs8.length c97), (7, .string rz13)] ((True) ∧ (True) ∧ (True) ∧ True) rfl (by kernel_rfl) ⟨trivial, trivial, trivial, trivial⟩ ?_
        refine RunR.done (by kernel_rfl) ?_
        refine kseq_n ?_
        refine RunC.ret ?_
        refine kblock_r ?_
        refine kseq_r ?_
        refine kret_r [.slice A917 zs19.length c918, .int .i64 0, .int .i64 0] [0] [row 9 1 (.slice A917 zs19.length c918) zs19.length (strV zs19)] ⟨rfl, rfl, rfl, trivial⟩ (by kernel_rfl) rfl ⟨A917, c918, zs19, 0, 0, rfl, rfl, (by rw [hp20]; exact wh_2 (by assumption) (by assumption) (by assumption)), (by first | assumption | (intro h; simp at h)), (by first | assumption | exact Nat.zero_le _)⟩
      · skip
        refine RunC.seq ?_
        refine RunC.region ?_
        refine RunR.sil hU [] 1 1 [2, 3, 4, 5, 7, 39] [(2, .slice none 0 0), (3, .int .i64 0), (4, .int .i64 0), (5, .slice A96 zs8.length c97), (7, .string rz13), (39, .string rz13)] ((True) ∧ True) rfl (by kernel_rfl) ⟨trivial, trivial⟩ ?_
        refine RunR.step (dst := some 40) (op := .call { callee := .value (.func 33), args := #[.tmp 39], argTypes := #[9] }) (by kernel_rfl) (Step.call 33 [.string rz13] (by kernel_rfl) (by kernel_rfl) [] [] [row 9 1 (.slice A96 zs8.length c97) zs8.length (strV zs8), vw A8 (strV xs)] (p_may_spec rz13 (by exact rz_le hp14 (hM.le _))) [] (by kernel_rfl) (Lend.nil _) ?_)
        rintro _ _ ⟨rfl, rfl⟩
        refine RunR.sil hU [] 2 4 [2, 3, 4, 5, 7, 38] [(2, .slice none 0 0), (3, .int .i64 0), (4, .int .i64 0), (5, .slice A96 zs8.length c97), (7, .string rz13), (38, .bool (!decide (mayP (sb rz13))))] ((True) ∧ (True) ∧ True) rfl (by kernel_rfl) ⟨trivial, trivial, trivial⟩ ?_
        refine RunR.done (by kernel_rfl) ?_
        refine kseq_n ?_
        refine RunC.condn (mayP (sb rz13)) (by kernel_rfl) (fun h24 => ?_) (fun h24 => ?_)
        · skip
          refine RunC.seq ?_
          refine RunC.region ?_
          refine RunR.sil hU [] 3 3 [2, 3, 4, 5, 7] [(2, .slice none 0 0), (3, .int .i64 0), (4, .int .i64 12), (5, .slice A96 zs8.length c97), (7, .string rz13)] ((True) ∧ (True) ∧ (True) ∧ True) rfl (by kernel_rfl) ⟨trivial, trivial, trivial, trivial⟩ ?_
          refine RunR.done (by kernel_rfl) ?_
          refine kseq_n ?_
          refine RunC.ret ?_
          refine kblock_r ?_
          refine kseq_r ?_
          refine kret_rt ([row 9 1 (.slice none 0 0) 0 (strV ([] : List ByteArray)), row 9 1 (.slice A96 zs8.length c97) zs8.length (strV zs8), vw A8 (strV xs)]) (fun w0 W w hs => (hs).nil_row 9 1) [.slice none 0 0, .int .i64 0, .int .i64 12] [0] [row 9 1 (.slice none 0 0) 0 (strV ([] : List ByteArray))] ⟨rfl, rfl, rfl, trivial⟩ (by kernel_rfl) rfl ⟨none, 0, ([] : List ByteArray), 0, 12, rfl, rfl, (by exact wp_3 (by assumption) (by assumption) hp14 (by assumption) (by assumption)), (by first | assumption | (intro h; simp at h)), (by first | assumption | exact Nat.zero_le _)⟩
        · skip
          refine RunC.skip ?_
          refine kblock_n ?_
          refine kseq_n ?_
          refine RunC.seq ?_
          refine RunC.region ?_
          refine RunR.sil hU [] 2 2 [2, 3, 4, 42, 43] [(2, .slice none 0 0), (3, .int .i64 0), (4, .int .i64 0), (42, .slice A96 zs8.length c97), (43, .string rz13)] ((True) ∧ (True) ∧ True) rfl (by kernel_rfl) ⟨trivial, trivial, trivial⟩ ?_
          refine RunR.step (dst := some 44) (op := .buildSlice 33 1 #[(0, .tmp 43)]) (by kernel_rfl) (Step.lit_vals hU 9 16 (.string ⟨#[]⟩) (strV ([rz13] : List ByteArray)) (by kernel_rfl) (by kernel_rfl) (by kernel_rfl) (by simp [strV, Value.cells]) rfl rfl (by kernel_rfl) (fun b25 => ?_))
          refine RunR.step (dst := some 45) (op := .call { callee := .builtin .append, args := #[.tmp 42, .tmp 44], argTypes := #[33, 33] }) (by kernel_rfl) (Step.append_strs hU 9 16 (.string ⟨#[]⟩) 1 0 A96 zs8.length c97 zs8 (some ⟨b25, 0, none⟩) 1 1 (row 9 1 (.slice (some ⟨b25, 0, none⟩) 1 1) 1 (strV ([rz13] : List ByteArray))) ([rz13] : List ByteArray) (by kernel_rfl) (by kernel_rfl) (by kernel_rfl) (by kernel_rfl) (by kernel_rfl) (by kernel_rfl) (by kernel_rfl) (tells_row _ _ _ _ _ _) (by first | rfl | omega | (simp only [List.length_cons, List.length_nil] at *; omega)) (by first | rfl | omega | (simp only [List.length_cons, List.length_nil] at *; omega)) (by first | rfl | omega | (simp only [List.length_cons, List.length_nil] at *; omega)) (by first | rfl | omega | (simp only [List.length_cons, List.length_nil] at *; omega)) (by kernel_rfl) (fun Aq26 cq27 hc28 hA29 => ?_))
          have hl30 : (zs8 ++ ([rz13] : List ByteArray)).length = zs8.length + ([rz13] : List ByteArray).length := List.length_append
          simp only [List.length_cons, List.length_nil] at hl30
          refine RunR.sil hU [] 3 7 [2, 3, 4] [(2, .slice Aq26 ((zs8 ++ ([rz13] : List ByteArray)).length) cq27), (3, .int .i64 1), (4, .int .i64 0)] ((True) ∧ (True) ∧ (True) ∧ True) rfl (by kernel_rfl) ⟨trivial, trivial, trivial, trivial⟩ ?_
          refine RunR.done (by kernel_rfl) ?_
          refine kseq_n ?_
          refine RunC.ret ?_
          refine kret_r [.slice Aq26 ((zs8 ++ ([rz13] : List ByteArray)).length) cq27, .int .i64 1, .int .i64 0] [0] [row 9 1 (.slice Aq26 ((zs8 ++ ([rz13] : List ByteArray)).length) cq27) ((zs8 ++ ([rz13] : List ByteArray)).length) (strV (zs8 ++ ([rz13] : List ByteArray)))] ⟨rfl, rfl, rfl, trivial⟩ (by kernel_rfl) rfl ⟨Aq26, cq27, (zs8 ++ ([rz13] : List ByteArray)), 1, 0, rfl, rfl, (by exact wp_4 (by assumption) hp9 hz3 (by assumption) hp14 (by assumption) (by assumption)), (by first | assumption | (intro h; simp at h)), (by first | assumption | exact Nat.zero_le _)⟩
end Go.Proofs.YtjhinpmnpdgadaaDoor.X8
