/- Numbers of 32 bytes, the least first: plain laws. -/
import Derived.Test.YtkehpipialmneaaFPure
namespace Go.Proofs.Ytkehpipialmneaa.SL.N
set_option linter.unusedVariables false
set_option linter.unusedSimpArgs false
open Go Go.Proofs.Ytkehpipialmneaa.SL Go.Proofs.Ytkehpipialmneaa.SL.W Go.Proofs.Ytkehpipialmneaa.SL.F

structure Dg (xs : List Int) (x : Int) : Prop where
  is : xs = leB x 32
  lo : 0 ≤ x
  hi : x < 115792089237316195423570985008687907853269984665640564039457584007913129639936
theorem p32 : (256 : Int) ^ 32 = 115792089237316195423570985008687907853269984665640564039457584007913129639936 := by decide
theorem Dg.len {xs : List Int} {x : Int} (h : Dg xs x) : xs.length = 32 := by rw [h.is, leB_len]
theorem Dg.inn {xs : List Int} {x : Int} (h : Dg xs x) : In .u8 xs := by rw [h.is]; exact leB_in _ _
theorem Dg.val {xs : List Int} {x : Int} (h : Dg xs x) : leN xs 32 = x := by
  rw [h.is, leN_leB, p32]
  exact Int.emod_eq_of_lt h.lo h.hi
theorem Dg.at {xs : List Int} {x : Int} (h : Dg xs x) (i : Nat) : 0 ≤ xs.getD i 0 ∧ xs.getD i 0 < 256 := h.inn.at_ i
theorem Dg.i64 {xs : List Int} {x : Int} (h : Dg xs x) : In .i64 xs := fun z hz => by
  have := h.inn z hz
  simp only [fits] at this ⊢
  omega
theorem leB_leN : ∀ (n : Nat) (xs : List Int), xs.length = n → In .u8 xs → leB (leN xs n) n = xs
  | 0, [], _, _ => rfl
  | n + 1, a :: t, hl, hx => by
    have ha : 0 ≤ a ∧ a < 256 := hx a List.mem_cons_self
    have ih := leB_leN n t (by simpa using hl) (fun y hy => hx y (List.mem_cons_of_mem _ hy))
    rw [leN_cons]
    show (a + 256 * leN t n) % 256 :: leB ((a + 256 * leN t n) / 256) n = _
    rw [show (a + 256 * leN t n) % 256 = a by omega, show (a + 256 * leN t n) / 256 = leN t n by omega, ih]
theorem Dg.of {xs : List Int} {x : Int} (hl : xs.length = 32) (hx : In .u8 xs) (hv : leN xs 32 = x) : Dg xs x := by
  have hb := leN_bd hx 32
  rw [p32, hv] at hb
  exact ⟨by rw [← hv, leB_leN 32 xs hl hx], hb.1, hb.2⟩
theorem Dg.inj {xs ys : List Int} {x y : Int} (h : Dg xs x) (h' : Dg ys y) : xs = ys ↔ x = y :=
  ⟨fun e => by rw [← h.val, ← h'.val, e], fun e => by rw [h.is, h'.is, e]⟩
def sumN (g : Nat → Int) : Nat → Int
  | 0 => 0
  | n + 1 => sumN g n + g n * 256 ^ n
theorem leN_succ (xs : List Int) (n : Nat) : leN xs (n + 1) = leN xs n + xs.getD n 0 * 256 ^ n := rfl
theorem leN_sum (xs : List Int) : ∀ n, leN xs n = sumN (fun i => xs.getD i 0) n
  | 0 => rfl
  | n + 1 => by rw [leN_succ, leN_sum xs n]; rfl
theorem sumN_congr {f g : Nat → Int} : ∀ {n : Nat}, (∀ i, i < n → f i = g i) → sumN f n = sumN g n
  | 0, _ => rfl
  | n + 1, h => by rw [sumN, sumN, sumN_congr (fun i hi => h i (by omega)), h n (by omega)]
theorem leN_eq {xs : List Int} {g : Nat → Int} {n : Nat} (h : ∀ i, i < n → xs.getD i 0 = g i) : leN xs n = sumN g n := by
  rw [leN_sum]
  exact sumN_congr h
theorem leN_same {xs ys : List Int} {n : Nat} (h : ∀ i, i < n → xs.getD i 0 = ys.getD i 0) : leN xs n = leN ys n := by
  rw [leN_eq h, ← leN_sum]
theorem leN_set {xs : List Int} {i : Nat} (v : Int) : ∀ {n : Nat}, i < n → i < xs.length → leN (xs.set i v) n = leN xs n + (v - xs.getD i 0) * 256 ^ i
  | n + 1, hi, hl => by
    rw [leN_succ, leN_succ]
    by_cases e : i = n
    · subst e
      rw [set_at hl, leN_same (ys := xs) (fun j hj => F.getD_set_ne (by omega) v), Int.sub_mul]
      omega
    · rw [leN_set v (by omega) hl, F.getD_set_ne e]
      omega
theorem leN_split (xs : List Int) (n : Nat) : ∀ m, leN xs (n + m) = leN xs n + 256 ^ n * leN (xs.drop n) m
  | 0 => by simp [leN]
  | m + 1 => by
    have e : (xs.drop n).getD m 0 = xs.getD (n + m) 0 := by simp [List.getD_eq_getElem?_getD]
    rw [← Nat.add_assoc, leN_succ, leN_split xs n m, leN_succ, e, Int.pow_add]
    grind
theorem mapP_get {f : Nat → Int} {xs : List Int} {n i : Nat} (h : i < n) : (mapP f xs n).getD i 0 = f i := by
  rw [mapP, List.getD_eq_getElem?_getD, List.getElem?_append_left (by simp; exact h)]
  simp [h]
theorem mapP_tail {f : Nat → Int} {xs : List Int} {n i : Nat} (h : n ≤ i) (hn : n ≤ xs.length) : (mapP f xs n).getD i 0 = xs.getD i 0 := by
  rw [mapP, getD_app_r (by simp; exact h)]
  simp [List.getD_eq_getElem?_getD, show n + (i - n) = i by omega]
theorem mapP_zero (f : Nat → Int) (xs : List Int) : mapP f xs 0 = xs := by simp [mapP]
def cf (g : Nat → Int) : Nat → Int
  | 0 => 0
  | n + 1 => (g n + cf g n) / 256
def df (g : Nat → Int) (n : Nat) : Int := (g n + cf g n) % 256
theorem cf_sum (g : Nat → Int) : ∀ n, sumN (df g) n + 256 ^ n * cf g n = sumN g n
  | 0 => by simp [sumN, cf]
  | n + 1 => by
    have h := cf_sum g n
    have e : df g n + 256 * cf g (n + 1) = g n + cf g n := by rw [df, cf]; omega
    rw [sumN, sumN, ← h, Int.pow_succ]
    rw [show g n = df g n + 256 * cf g (n + 1) - cf g n by omega]
    grind
def gs (os as : List Int) (i : Nat) : Int := os.getD i 0 + as.getD i 0
structure FB (as : List Int) : Prop where
  len : as.length ≤ 63
  le : ∀ e ∈ as, 0 ≤ e ∧ e ≤ 1099511627776
  small : 32 < as.length → ∀ e ∈ as, e ≤ 1073741824
theorem FB.at {as : List Int} (h : FB as) (i : Nat) : 0 ≤ as.getD i 0 ∧ as.getD i 0 ≤ 1099511627776 := by
  rw [List.getD_eq_getElem?_getD]
  rcases Nat.lt_or_ge i as.length with hi | hi
  · rw [List.getElem?_eq_getElem hi]; exact h.le _ (List.getElem_mem hi)
  · rw [List.getElem?_eq_none hi]; decide
theorem FB.bnd {as : List Int} (h : FB as) : Bnd 0 1099511627777 as := ⟨by decide, by decide, fun e he => by have := h.le e he; omega⟩
theorem FB.i64 {as : List Int} (h : FB as) : In .i64 as := fun z hz => by
  have := h.le z hz
  simp only [fits]
  omega
theorem leN_nil : ∀ n, leN [] n = 0
  | 0 => rfl
  | n + 1 => by rw [leN_succ, leN_nil n]; simp
theorem leN_ge {as : List Int} {n : Nat} (h : as.length ≤ n) : ∀ m, leN as (n + m) = leN as n
  | 0 => rfl
  | m + 1 => by rw [← Nat.add_assoc, leN_succ, leN_ge h m, getD_ge as _ (by omega)]; omega
section
variable {os us as nx : List Int} {c : Int} (hol : os.length = 32) (ho : In .u8 os) (hF : FB as) (hu : us = mapP (df (gs os as)) os 32) (hc : c = cf (gs os as) 32)
include hol ho hF hu hc
end
structure CB (m : Nat) (ss : List Int) : Prop where
  len : ss.length = 63
  le : ∀ e ∈ ss, 0 ≤ e ∧ e ≤ 65025 * m
theorem CB.bnd {m : Nat} {ss : List Int} (h : CB m ss) (hm : m ≤ 1024) : Bnd 0 66585601 ss := ⟨by decide, by decide, fun e he => by have := h.le e he; omega⟩
theorem CB.at {m : Nat} {ss : List Int} (h : CB m ss) (i : Nat) : 0 ≤ ss.getD i 0 ∧ ss.getD i 0 ≤ 65025 * m := by
  rw [List.getD_eq_getElem?_getD]
  rcases Nat.lt_or_ge i ss.length with hi | hi
  · rw [List.getElem?_eq_getElem hi]; exact h.le _ (List.getElem_mem hi)
  · rw [List.getElem?_eq_none hi]; show (0 : Int) ≤ 0 ∧ (0 : Int) ≤ 65025 * m; omega
theorem CB.set {m : Nat} {ss : List Int} (h : CB m ss) (j : Nat) {q : Int} (hq : 0 ≤ q ∧ q ≤ 65025) : CB (m + 1) (ss.set j (ss.getD j 0 + q)) := by
  refine ⟨by rw [List.length_set, h.len], fun e he => ?_⟩
  rcases List.mem_or_eq_of_mem_set he with he | rfl
  · have := h.le e he; omega
  · have := h.at j; omega
theorem ext_getD {xs ys : List Int} (hl : xs.length = ys.length) (h : ∀ i, i < xs.length → xs.getD i 0 = ys.getD i 0) : xs = ys := by
  apply List.ext_getElem hl
  intro i h1 h2
  have e := h i h1
  rw [List.getD_eq_getElem?_getD, List.getElem?_eq_getElem h1, List.getD_eq_getElem?_getD, List.getElem?_eq_getElem h2] at e
  exact e
end Go.Proofs.Ytkehpipialmneaa.SL.N
