/- Numbers as bytes: plain laws. -/
import Derived.Test.YtcpohiegijpghaaSLq
import Derived.Lib.Bytealg
namespace Go.Proofs.Ytcpohiegijpghaa.SL.W
set_option linter.unusedVariables false
set_option linter.unusedSimpArgs false
open Go Go.Proofs.Ytcpohiegijpghaa.SL

/-! ### and, or, exclusive or, of numbers that aren't below 0 -/
/-! ### bytes of a number -/
/-! ### equal rows -/
theorem take_eq_succ {xs ys : List Int} {i : Nat} (hl : xs.length = ys.length) (hi : i < xs.length) : xs.take (i + 1) = ys.take (i + 1) ↔ xs.take i = ys.take i ∧ xs.getD i 0 = ys.getD i 0 := by
  have hi' : i < ys.length := by omega
  rw [List.take_succ_eq_append_getElem hi, List.take_succ_eq_append_getElem hi', List.getD_eq_getElem?_getD, List.getD_eq_getElem?_getD, List.getElem?_eq_getElem hi, List.getElem?_eq_getElem hi']
  constructor
  · intro h
    have := List.append_inj h (by simp; omega)
    simpa using this
  · rintro ⟨h1, h2⟩
    simp at h2
    rw [h1, h2]
theorem eq_of_take {xs ys : List Int} {i : Nat} (hl : xs.length = ys.length) (hi : xs.length ≤ i) (h : xs.take i = ys.take i) : xs = ys := by
  rwa [List.take_of_length_le hi, List.take_of_length_le (by omega)] at h
theorem ne_of_getD {xs ys : List Int} {i : Nat} (h : xs.getD i 0 ≠ ys.getD i 0) : xs ≠ ys := fun e => h (by rw [e])
/-! ### digits of base sixteen -/
abbrev digits : ByteArray := ⟨#[48, 49, 50, 51, 52, 53, 54, 55, 56, 57, 97, 98, 99, 100, 101, 102]⟩
/-- The digit of a value. -/
def hd (n : Int) : Int := (sb digits).getD n.toNat 0
/-! ### the laws' last steps -/
end Go.Proofs.Ytcpohiegijpghaa.SL.W
