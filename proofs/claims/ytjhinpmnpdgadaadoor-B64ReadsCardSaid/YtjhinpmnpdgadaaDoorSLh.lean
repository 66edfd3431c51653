/- Plain words for rows of numbers. -/
import Derived.Test.YtjhinpmnpdgadaaDoorSLg
namespace Go.Proofs.YtjhinpmnpdgadaaDoor.SL
set_option linter.unusedVariables false
set_option linter.unusedSimpArgs false
open Go

def nums (k : IntKind) (xs : List Int) : List Value := xs.map (Value.int k)
theorem nums_length (k : IntKind) (xs : List Int) : (nums k xs).length = xs.length := by simp [nums]
theorem nums_get (k : IntKind) (xs : List Int) (i : Nat) (h : i < xs.length) : (nums k xs)[i]? = some (.int k (xs.getD i 0)) := by
  simp [nums, List.getElem?_eq_getElem h, List.getD_eq_getElem?_getD]
theorem nums_one (k : IntKind) (xs : List Int) : ∀ u ∈ nums k xs, u.oneCell' = true := by
  intro u hu
  obtain ⟨x, _, rfl⟩ := List.mem_map.1 hu
  rfl
theorem nums_append (k : IntKind) (xs ys : List Int) : nums k (xs ++ ys) = nums k xs ++ nums k ys := by simp [nums]
theorem nums_wr (k : IntKind) (xs : List Int) (i : Nat) (v : Int) (h : i < xs.length) : wr (nums k xs) i [.int k v] = nums k (xs.set i v) := by
  unfold wr nums
  rw [List.map_set, List.set_eq_take_append_cons_drop, if_pos (by simpa using h)]
  simp

/-- Each is a number of the kind. -/
def In (k : IntKind) (xs : List Int) : Prop := ∀ x ∈ xs, fits k x
theorem fits_zero (k : IntKind) : fits k 0 := by cases k <;> simp [fits]
theorem In.at_ {k : IntKind} {xs : List Int} (h : In k xs) (i : Nat) : fits k (xs.getD i 0) := by
  rcases Nat.lt_or_ge i xs.length with hi | hi
  · rw [List.getD_eq_getElem?_getD, List.getElem?_eq_getElem hi]
    exact h _ (List.getElem_mem hi)
  · rw [List.getD_eq_getElem?_getD, List.getElem?_eq_none hi]
    exact fits_zero k
theorem In.nil (k : IntKind) : In k [] := fun _ h => by cases h
theorem In.append {k : IntKind} {xs ys : List Int} (h : In k xs) (h' : In k ys) : In k (xs ++ ys) := fun x hx => (List.mem_append.1 hx).elim (h x) (h' x)
theorem In.cons {k : IntKind} {x : Int} {xs : List Int} (h : fits k x) (h' : In k xs) : In k (x :: xs) := fun y hy => by
  rcases List.mem_cons.1 hy with rfl | hy
  · exact h
  · exact h' y hy
theorem In.take {k : IntKind} {xs : List Int} (h : In k xs) (n : Nat) : In k (xs.take n) := fun x hx => h x (List.mem_of_mem_take hx)
theorem In.drop {k : IntKind} {xs : List Int} (h : In k xs) (n : Nat) : In k (xs.drop n) := fun x hx => h x (List.mem_of_mem_drop hx)
theorem In.set {k : IntKind} {xs : List Int} (h : In k xs) (i : Nat) {v : Int} (hv : fits k v) : In k (xs.set i v) := fun x hx => by
  rcases List.mem_or_eq_of_mem_set hx with hx | rfl
  · exact h x hx
  · exact hv
theorem In.replicate (k : IntKind) (n : Nat) : In k (List.replicate n 0) := fun x hx => by rw [List.eq_of_mem_replicate hx]; exact fits_zero k
theorem In.rev {k : IntKind} {xs : List Int} (h : In k xs) : In k xs.reverse := fun x hx => h x (List.mem_reverse.1 hx)
theorem In.sb (s : ByteArray) : In .u8 (sb s) := fun x hx => by
  obtain ⟨b, _, rfl⟩ := List.mem_map.1 hx
  have := b.toNat_lt
  simp only [fits]
  omega
theorem getD_ge (xs : List Int) (i : Nat) (h : xs.length ≤ i) : xs.getD i 0 = 0 := by rw [List.getD_eq_getElem?_getD, List.getElem?_eq_none h]; rfl
end Go.Proofs.YtjhinpmnpdgadaaDoor.SL
