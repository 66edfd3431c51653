/- Appending where the old row is used further; clearing; copying. -/
import Derived.Test.YtcpohiegijpghaaSLk
import Derived.Laws.IdiomCopy
import Derived.Laws.CopyRow
namespace Go.Proofs.Ytcpohiegijpghaa.SL
set_option linter.unusedVariables false
set_option linter.unusedSimpArgs false
open Go
section
variable {X : Cx} {U : Tab} (hU : U.OK X.P) {t : Env} {D : List Fact} {φ : Env → List Fact → Prop}
include hU

omit hU in
theorem nums_wrs (k : IntKind) (xs : List Int) (i : Nat) (ys : List Int) : wr (nums k xs) i (nums k ys) = nums k (xs.take i ++ ys ++ xs.drop (i + ys.length)) := by
  simp [wr, nums, List.map_take, List.map_drop]

omit hU in
/-- A part of a row of numbers is written over. -/
theorem row_write {w0 : World} {W : FP} {e n cap : Nat} {A : Option Addr} {kd : IntKind} {xs : List Int} {w : World} (h : SAT w0 W (row e 1 (.slice A n cap) n (nums kd xs) :: D) w) (hn : 0 < n) :
    ∃ b ex, A = some ⟨b, 0, none⟩ ∧ w.heap[b]? = some (.cells (nums kd xs ++ ex).toArray e (0, 0)) ∧ n = xs.length ∧
      ∀ (l : Nat) (ys : List Int), l + ys.length ≤ xs.length → SAT w0 W (row e 1 (.slice A n cap) n (nums kd (xs.take l ++ ys ++ xs.drop (l + ys.length))) :: D) (w.setRow b ((nums kd xs ++ ex).take l ++ nums kd ys ++ (nums kd xs ++ ex).drop (l + (nums kd ys).length)).toArray) := by
  have hlen := (row_len h).1
  rw [nums_length, Nat.mul_one] at hlen
  obtain ⟨b, cap', ex, hv, hnc, hcm, hex, hw2⟩ := row_open h hn
  injection hv with hA _ hcap
  subst hA; subst hcap
  obtain ⟨fp, hh, _⟩ := hw2.head
  refine ⟨b, ex, rfl, hh, hlen.symm, fun l ys hl => ?_⟩
  have h3 := sat_setRow (cs' := nums kd (xs.take l ++ ys ++ xs.drop (l + ys.length)) ++ ex) hw2
  have e1 : (nums kd xs ++ ex).take l ++ nums kd ys ++ (nums kd xs ++ ex).drop (l + (nums kd ys).length) = nums kd (xs.take l ++ ys ++ xs.drop (l + ys.length)) ++ ex := by
    rw [List.take_append_of_le_length (by rw [nums_length]; omega), List.drop_append_of_le_length (by rw [nums_length, nums_length]; omega), nums_length]
    simp [nums, List.map_take, List.map_drop]
  rw [e1]
  have hl2 : (nums kd (xs.take l ++ ys ++ xs.drop (l + ys.length))).length = n * 1 := by rw [nums_length]; simp; omega
  have h4 := SAT.row_of_blk (s := 1) h3 hnc hcm (by rw [List.length_append, hl2]; rw [List.length_append, nums_length] at hex; omega)
  rwa [← hl2, List.take_left] at h4

end
end Go.Proofs.Ytcpohiegijpghaa.SL
