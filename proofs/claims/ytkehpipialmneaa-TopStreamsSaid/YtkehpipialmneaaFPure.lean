/- The field: plain laws. -/
import Derived.Test.YtkehpipialmneaaWPure
import Derived.Test.YtkehpipialmneaaSLw
namespace Go.Proofs.Ytkehpipialmneaa.SL.F
set_option linter.unusedVariables false
set_option linter.unusedSimpArgs false
open Go Go.Proofs.Ytkehpipialmneaa.SL Go.Proofs.Ytkehpipialmneaa.SL.W

theorem getD_app_r {a b : List Int} {i : Nat} (h : a.length ≤ i) : (a ++ b).getD i 0 = b.getD (i - a.length) 0 := by rw [List.getD_eq_getElem?_getD, List.getD_eq_getElem?_getD, List.getElem?_append_right h]
def P : Int := 57896044618658097711785492504343953926634992332820282019728792003956564819949
def val (xs : List Int) : Int := xs.foldr (fun x v => x + 2251799813685248 * v) 0
theorem five {Q : List Int → Prop} (h : ∀ a b c d e : Int, Q [a, b, c, d, e]) (xs : List Int) (hl : xs.length = 5) : Q xs := by
  match xs, hl with
  | [a, b, c, d, e], _ => exact h a b c d e
def Lim (b : Int) (xs : List Int) : Prop := xs.length = 5 ∧ ∀ x ∈ xs, 0 ≤ x ∧ x < b
theorem Lim.at {b : Int} {xs : List Int} (h : Lim b xs) {i : Nat} (hi : i < 5) : 0 ≤ xs.getD i 0 ∧ xs.getD i 0 < b := by
  rw [List.getD_eq_getElem?_getD, List.getElem?_eq_getElem (by rw [h.1]; exact hi)]
  exact h.2 _ (List.getElem_mem _)
theorem Lim.mono {b b' : Int} {xs : List Int} (h : Lim b xs) (hb : b ≤ b') : Lim b' xs := ⟨h.1, fun x hx => ⟨(h.2 x hx).1, by have := (h.2 x hx).2; omega⟩⟩
theorem wrap64 {x : Int} (h0 : 0 ≤ x) (h1 : x < 18446744073709551616) : IntKind.wrap .u64 x = x := by
  simp [IntKind.wrap, IntKind.bits, IntKind.signed]
  omega
theorem set_at {xs : List Int} {n : Nat} (h : n < xs.length) (v : Int) : (xs.set n v).getD n 0 = v := by
  simp [List.getD_eq_getElem?_getD, h]
def mapP (f : Nat → Int) (xs : List Int) (n : Nat) : List Int := ((List.range n).map f) ++ xs.drop n
theorem mapP_len (f : Nat → Int) (xs : List Int) (n : Nat) (h : n ≤ xs.length) : (mapP f xs n).length = xs.length := by simp [mapP]; omega
theorem mapP_at (f : Nat → Int) (xs : List Int) (n : Nat) : (mapP f xs n).getD n 0 = xs.getD n 0 := by
  rw [mapP, getD_app_r (by simp)]
  simp [List.getD_eq_getElem?_getD]
theorem mapP_step (f : Nat → Int) (xs : List Int) (n : Nat) (h : n < xs.length) : (mapP f xs n).set n (f n) = mapP f xs (n + 1) := by
  rw [mapP, mapP, List.range_succ, List.map_append, List.drop_eq_getElem_cons h, List.set_append_right _ _ (by simp), show n - ((List.range n).map f).length = 0 by simp, List.set_cons_zero]
  simp
structure El (xs : List Int) (v : Int) : Prop where
  lim : Lim 2251799813763073 xs
  v : val xs % P = v
theorem wrap_mod (x : Int) : IntKind.wrap .u64 x = x % 18446744073709551616 := by simp [IntKind.wrap, IntKind.bits, IntKind.signed]
def four (i : Nat) : Int := if i = 0 then 9007199254740916 else 9007199254740988
theorem prod_bd {a b : Int} (ha : 0 ≤ a ∧ a < 2251799813763073) (hb : 0 ≤ b ∧ b < 2251799813763073) : 0 ≤ a * b ∧ a * b ≤ 5070602401263410246992978403329 :=
  ⟨Int.mul_nonneg ha.1 hb.1, by have h := Int.mul_le_mul (show a ≤ 2251799813763073 by omega) (show b ≤ 2251799813763073 by omega) hb.1 (by decide); omega⟩
def factor (ys : List Int) (n : Nat) : Int := if n / 5 + n % 5 ≥ 5 then ys.getD (n % 5) 0 * 19 else ys.getD (n % 5) 0
def term (xs ys : List Int) (n : Nat) : Int := xs.getD (n / 5) 0 * factor ys n
def col (xs ys : List Int) : Nat → Nat → Int
  | 0, _ => 0
  | n + 1, j => col xs ys n j + if (n / 5 + n % 5) % 5 = j then term xs ys n else 0
structure Sums (xs ys : List Int) (n : Nat) (L : List Int) : Prop where
  len : L.length = 10
  sum : ∀ j, j < 5 → L.getD (2 * j) 0 * 18446744073709551616 + L.getD (2 * j + 1) 0 = col xs ys n j
theorem getD_set_ne {xs : List Int} {i j : Nat} (h : i ≠ j) (v : Int) : (xs.set i v).getD j 0 = xs.getD j 0 := by
  simp [List.getD_eq_getElem?_getD, List.getElem?_set_ne h]
theorem Lim.inn {b : Int} {xs : List Int} (h : Lim b xs) (hb : b ≤ 18446744073709551616) : In .u64 xs := fun x hx => by
  have := h.2 x hx
  simp only [fits]
  omega
theorem at_col {i k : Int} (hi : 0 ≤ i) (hi2 : i < 5) (hk : 0 ≤ k) (hk2 : k < 5) : ((5 * i.toNat + k.toNat) / 5 + (5 * i.toNat + k.toNat) % 5) % 5 = ((i + k) % 5).toNat := by
  rw [show (5 * i.toNat + k.toNat) / 5 = i.toNat by omega, show (5 * i.toNat + k.toNat) % 5 = k.toNat by omega]
  omega
end Go.Proofs.Ytkehpipialmneaa.SL.F
