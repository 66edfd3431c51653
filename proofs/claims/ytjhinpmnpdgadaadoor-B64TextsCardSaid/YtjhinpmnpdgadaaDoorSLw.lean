/- Blocks of numbers, two at a time: the elements of an array of structs of two numbers. -/
import Derived.Test.YtjhinpmnpdgadaaDoorSLv
namespace Go.Proofs.YtjhinpmnpdgadaaDoor.SL
set_option linter.unusedVariables false
set_option linter.unusedSimpArgs false
open Go
theorem cut2 {α : Type} [Inhabited α] (xs : List α) (o : Nat) (h : o + 2 ≤ xs.length) (d : α) : xs = xs.take o ++ ([xs.getD o d, xs.getD (o + 1) d] ++ xs.drop (o + 2)) := by
  conv => lhs; rw [← List.take_append_drop o xs, List.drop_eq_getElem_cons (by omega), List.drop_eq_getElem_cons (by omega)]
  rw [List.getD_eq_getElem?_getD, List.getElem?_eq_getElem (by omega), List.getD_eq_getElem?_getD, List.getElem?_eq_getElem (by omega)]
  rfl
theorem Seg.pair {k : IntKind} {xs : List Int} {o : Nat} (h : o + 2 ≤ xs.length) : Seg (nums k xs) o [.int k (xs.getD o 0), .int k (xs.getD (o + 1) 0)] := by
  refine ⟨nums k (xs.take o), nums k (xs.drop (o + 2)), ?_, by rw [nums_length, List.length_take]; omega⟩
  conv => lhs; rw [cut2 xs o h 0]
  simp [nums]
theorem set_pair (xs : List Int) (o : Nat) (h : o + 2 ≤ xs.length) (a b : Int) : (xs.set o a).set (o + 1) b = xs.take o ++ [a, b] ++ xs.drop (o + 2) := by
  rw [List.set_eq_take_append_cons_drop, if_pos (by rw [List.length_set]; omega), List.set_eq_take_append_cons_drop, if_pos (by omega)]
  simp [List.take_append, List.drop_append, List.length_take, Nat.min_eq_left (show o ≤ xs.length by omega)]
  rw [show o + 1 + 1 - o = 2 by omega, List.take_of_length_le (by rw [List.length_take]; omega), List.drop_of_length_le (by rw [List.length_take]; omega)]
  simp
theorem Put.pair {k : IntKind} {xs : List Int} {o : Nat} {a b : Int} (h : o + 2 ≤ xs.length) : Put (Go.Proofs.YtjhinpmnpdgadaaDoor.SL.nums k xs) o [.int k a, .int k b] (Go.Proofs.YtjhinpmnpdgadaaDoor.SL.nums k ((xs.set o a).set (o + 1) b)) := by
  refine ⟨?_, by simp [nums_length]; omega⟩
  rw [set_pair _ _ h]
  simp [wr, Go.Proofs.YtjhinpmnpdgadaaDoor.SL.nums]
/-- Each is at least a and below b. -/
structure Bnd (a b : Int) (xs : List Int) : Prop where
  lo : a ≤ 0
  hi : 0 < b
  all : ∀ x ∈ xs, a ≤ x ∧ x < b
theorem Bnd.at_ {a b : Int} {xs : List Int} (h : Bnd a b xs) (i : Nat) : a ≤ xs.getD i 0 ∧ xs.getD i 0 < b := by
  rw [List.getD_eq_getElem?_getD]
  rcases Nat.lt_or_ge i xs.length with hi | hi
  · rw [List.getElem?_eq_getElem hi]; exact h.all _ (List.getElem_mem hi)
  · rw [List.getElem?_eq_none hi]; exact ⟨h.lo, h.hi⟩
theorem Bnd.set {a b : Int} {xs : List Int} (h : Bnd a b xs) (i : Nat) {v : Int} (hv : a ≤ v ∧ v < b) : Bnd a b (xs.set i v) :=
  ⟨h.lo, h.hi, fun x hx => by
    rcases List.mem_or_eq_of_mem_set hx with hx | rfl
    · exact h.all x hx
    · exact hv⟩
theorem Bnd.nil {a b : Int} (h : a ≤ 0) (h' : 0 < b) : Bnd a b [] := ⟨h, h', fun x hx => by cases hx⟩
end Go.Proofs.YtjhinpmnpdgadaaDoor.SL
