/- Arrays of numbers: loaded and stored whole. -/
import Derived.Test.YtaaplakahkgclaaSLm
namespace Go.Proofs.Ytaaplakahkgclaa.SL
set_option linter.unusedVariables false
set_option linter.unusedSimpArgs false
open Go
section
variable {X : Cx} {U : Tab} (hU : U.OK X.P) {t : Env} {D : List Fact} {φ : Env → List Fact → Prop}

theorem loadv_arr {ty : TypeId} {n : Nat} {k : IntKind} {xs : List Int} (hty : isRowTy U ty = some true) (hsz : look U.sz ty = some n) (h : xs.length = n) : loadv U ty (nums k xs) 0 = some (.agg (nums k xs).toArray) := by
  unfold loadv
  rw [hty]
  simp only [hsz]
  have : Nat.ble (0 + n) (nums k xs).length = true := Nat.ble_eq_true_of_le (by rw [nums_length]; omega)
  rw [this]
  simp only [List.drop_zero]
  rw [List.take_of_length_le (by rw [nums_length]; omega)]

include hU
theorem Step.load_arr {d : Nat} {ty : TypeId} {x : Operand} (k0 b T n : Nat) (k : IntKind) (xs : List Int) (hty : isRowTy U ty = some true) (hsz : look U.sz ty = some n) (hx : ev t x = some (.pointer (some ⟨b, 0, none⟩))) (hD : D[k0]? = some (blk b T (nums k xs))) (h : xs.length = n) (hd : Nat.ble (d + 1) X.N = true)
    (kk : φ (put t d (.agg (nums k xs).toArray)) D) : Step X (some d) (.load ty x) t D φ :=
  Step.load_blk hU k0 b 0 T (nums k xs) _ hx hD (loadv_arr hty hsz h) hd kk
theorem Reads.load_arr {Θ : List Fact} {d : Option Nat} {ty : TypeId} {x : Operand} (k0 b T n : Nat) (k : IntKind) (xs : List Int) (hty : isRowTy U ty = some true) (hsz : look U.sz ty = some n) (hx : ev t x = some (.pointer (some ⟨b, 0, none⟩))) (hD : Θ[k0]? = some (blk b T (nums k xs))) (h : xs.length = n) :
    Reads X Θ d (.load ty x) t (.agg (nums k xs).toArray) :=
  Reads.load_blk hU k0 b 0 T (nums k xs) _ hx hD (loadv_arr hty hsz h)
theorem Step.store_arr {ty : TypeId} {x y : Operand} (k0 b T n : Nat) (k : IntKind) (xs ys : List Int) (hsz : look U.sz ty = some n) (hx : ev t x = some (.pointer (some ⟨b, 0, none⟩))) (hy : ev t y = some (.agg (nums k ys).toArray)) (hD : D[k0]? = some (blk b T (nums k xs))) (hxs : xs.length = n) (hys : ys.length = n)
    (kk : φ t (blk b T (nums k ys) :: D.eraseIdx k0)) : Step X none (.store ty x y) t D φ := by
  refine Step.store_blk hU k0 b 0 T (nums k xs) _ hx hy hD n hsz (nums k ys) (by simp [Value.cells]) (by rw [nums_length]; exact hys) ?_ (by rw [nums_length]; omega) ?_
  · exact List.all_eq_true.2 (fun u hu => nums_one k ys u hu)
  · rw [nums_wrs]
    simp only [List.take_zero, List.nil_append, Nat.zero_add]
    rw [List.drop_of_length_le (by omega), List.append_nil]
    exact kk

omit hU in
/-- An element of an array that is a value. -/
theorem nums_getD (k : IntKind) (xs : List Int) (i : Nat) (h : i < xs.length) : (nums k xs).toArray.getD i undef = .int k (xs.getD i 0) := by
  have h1 := nums_get k xs i h
  obtain ⟨h3, h4⟩ := List.getElem?_eq_some_iff.1 h1
  unfold Array.getD
  rw [dif_pos (by simpa using h3)]
  simpa using h4
end
end Go.Proofs.Ytaaplakahkgclaa.SL
