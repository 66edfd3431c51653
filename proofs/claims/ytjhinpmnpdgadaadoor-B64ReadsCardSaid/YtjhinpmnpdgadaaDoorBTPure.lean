/- Letters by bits: the document's way. -/
import Derived.Test.YtjhinpmnpdgadaaDoorBRPure
namespace Go.Proofs.YtjhinpmnpdgadaaDoor.SL.B
set_option linter.unusedVariables false
set_option linter.unusedSimpArgs false
open Go Go.Proofs.YtjhinpmnpdgadaaDoor.SL Go.Proofs.YtjhinpmnpdgadaaDoor.SL.W Go.Proofs.YtjhinpmnpdgadaaDoor.SL.Y

theorem ltr_cases : ∀ v : Fin 64, (v.val < 26 → ltr (v.val : Int) = 65 + v.val) ∧ (26 ≤ v.val → v.val < 52 → ltr (v.val : Int) = 71 + v.val) ∧ (52 ≤ v.val → v.val < 62 → ltr (v.val : Int) = v.val - 4) ∧ (v.val = 62 → ltr (v.val : Int) = 43) ∧ (v.val = 63 → ltr (v.val : Int) = 47) := by decide +kernel
theorem ltr_is {v : Int} (h : 0 ≤ v ∧ v < 64) : (v < 26 → ltr v = 65 + v) ∧ (26 ≤ v → v < 52 → ltr v = 71 + v) ∧ (52 ≤ v → v < 62 → ltr v = v - 4) ∧ (v = 62 → ltr v = 43) ∧ (v = 63 → ltr v = 47) := by
  obtain ⟨a, b, c, d, e⟩ := ltr_cases ⟨v.toNat, by omega⟩
  simp only [Int.toNat_of_nonneg h.1] at a b c d e
  exact ⟨fun h => a (by omega), fun h h' => b (by omega) (by omega), fun h h' => c (by omega) (by omega), fun h => d (by omega), fun h => e (by omega)⟩
theorem let_of {v y : Int} (h : 0 ≤ v ∧ v < 64) (hy : (v < 26 ∧ y = 65 + v) ∨ (26 ≤ v ∧ v < 52 ∧ y = 71 + v) ∨ (52 ≤ v ∧ v < 62 ∧ y = v - 4)) : strOfNums [y] = strOfNums [ltr v] := by
  obtain ⟨a, b, c, _⟩ := ltr_is h
  rcases hy with ⟨h1, rfl⟩ | ⟨h1, h2, rfl⟩ | ⟨h1, h2, rfl⟩
  · rw [a h1]
  · rw [b h1 h2]
  · rw [c h1 h2]
theorem let_62 {v : Int} (h : v = 62) : (⟨#[43]⟩ : ByteArray) = strOfNums [ltr v] := by subst h; decide +kernel
theorem let_63 {v : Int} (h : v = 63) : (⟨#[47]⟩ : ByteArray) = strOfNums [ltr v] := by subst h; decide +kernel
/-! ### Text by bits -/
theorem getD_l {a b : List Int} {i : Nat} (h : i < a.length) : (a ++ b).getD i 0 = a.getD i 0 := by
  rw [List.getD_eq_getElem?_getD, List.getElem?_append_left h, ← List.getD_eq_getElem?_getD]
theorem getD_r {a b : List Int} {i : Nat} (h : a.length ≤ i) : (a ++ b).getD i 0 = b.getD (i - a.length) 0 := by
  rw [List.getD_eq_getElem?_getD, List.getElem?_append_right h, ← List.getD_eq_getElem?_getD]
def bit (xs : List Int) (p : Nat) : Int := xs.getD (p / 8) 0 / 2 ^ (7 - p % 8) % 2
def bv (xs : List Int) (p : Nat) : Nat → Int
  | 0 => 0
  | n + 1 => bv xs p n * 2 + bit xs (p + n)
theorem bit_bd (xs : List Int) (p : Nat) : 0 ≤ bit xs p ∧ bit xs p ≤ 1 := by unfold bit; omega
theorem bv_bd (xs : List Int) (p : Nat) : ∀ n, 0 ≤ bv xs p n ∧ bv xs p n < 2 ^ n
  | 0 => by simp [bv]
  | n + 1 => by
    have h1 := bv_bd xs p n
    have h2 := bit_bd xs (p + n)
    rw [bv, Int.pow_succ]
    omega
theorem bv_63 {xs : List Int} {p n : Nat} (hn : n ≤ 6) : 0 ≤ bv xs p n ∧ bv xs p n ≤ 63 := by
  have h := bv_bd xs p n
  have : (2 : Int) ^ n ≤ 2 ^ 6 := by exact_mod_cast Nat.pow_le_pow_right (by decide) hn
  have e : (2 : Int) ^ 6 = 64 := by decide
  omega
theorem bit_go {xs : List Int} {a k : Int} (ha : 0 ≤ a) (hk : a ≤ k) : xs.getD (k / 8).toNat 0 / 2 ^ min (7 - k % 8).toNat 64 % 2 = bit xs (a.toNat + (k - a).toNat) := by
  rw [bit, show a.toNat + (k - a).toNat = k.toNat by omega, show (k / 8).toNat = k.toNat / 8 by omega, show min (7 - k % 8).toNat 64 = 7 - k.toNat % 8 by omega]
theorem bit_no {xs : List Int} {a k : Int} (ha : 0 ≤ a) (hk : a ≤ k) (h : ¬ k / 8 < ((xs.length : Nat) : Int)) : bit xs (a.toNat + (k - a).toNat) = 0 := by
  rw [bit, show a.toNat + (k - a).toNat = k.toNat by omega, getD_ge xs _ (by omega), Int.zero_ediv]
  rfl
def lets (xs : List Int) : Nat → List Int
  | 0 => []
  | n + 1 => lets xs n ++ [ltr (bv xs (6 * n) 6)]
theorem lets_len (xs : List Int) : ∀ n, (lets xs n).length = n
  | 0 => rfl
  | n + 1 => by rw [lets, List.length_append, lets_len]; rfl
theorem lets_ne (xs : List Int) : ∀ n i, i < n → (lets xs n).getD i 0 ≠ 61
  | 0, i, h => by omega
  | n + 1, i, h => by
    rw [lets]
    rcases Nat.lt_or_ge i n with h1 | h1
    · rw [getD_l (by rw [lets_len]; exact h1)]
      exact lets_ne xs n i h1
    · rw [getD_r (by rw [lets_len]; exact h1), lets_len, show i - n = 0 by omega]
      have := bv_63 (xs := xs) (p := 6 * n) (Nat.le_refl 6)
      exact ltr_ne (by omega)
theorem bit_drop (xs : List Int) (j p : Nat) : bit (xs.drop (3 * j)) p = bit xs (24 * j + p) := by
  rw [bit, bit, List.getD_eq_getElem?_getD, List.getD_eq_getElem?_getD, List.getElem?_drop, show (24 * j + p) / 8 = 3 * j + p / 8 by omega, show (24 * j + p) % 8 = p % 8 by omega]
theorem bit_take (xs : List Int) {p : Nat} (hp : p < 24) : bit (xs.take 3) p = bit xs p := by
  rw [bit, bit, List.getD_eq_getElem?_getD, List.getD_eq_getElem?_getD, List.getElem?_take, if_pos (by omega)]
theorem bv_chunk (xs : List Int) (j p : Nat) : ∀ n, p + n ≤ 24 → bv xs (24 * j + p) n = bv (chunk 3 xs j) p n
  | 0, _ => rfl
  | n + 1, h => by rw [bv, bv, bv_chunk xs j p n (by omega), chunk, bit_take _ (by omega), bit_drop, Nat.add_assoc]
theorem bv_6 (cs : List Int) (p : Nat) : bv cs p 6 = bit cs p * 32 + bit cs (p + 1) * 16 + bit cs (p + 2) * 8 + bit cs (p + 3) * 4 + bit cs (p + 4) * 2 + bit cs (p + 5) := by
  simp only [bv, Nat.add_zero]
  omega
theorem let_4 {cs : List Int} {a b c : Int} (e0 : cs.getD 0 0 = a) (e1 : cs.getD 1 0 = b) (e2 : cs.getD 2 0 = c) (ha : 0 ≤ a ∧ a < 256) (hb : 0 ≤ b ∧ b < 256) (hc : 0 ≤ c ∧ c < 256) :
    bv cs 0 6 = a / 4 ∧ bv cs 6 6 = a % 4 * 16 + b / 16 ∧ bv cs 12 6 = b % 16 * 4 + c / 64 ∧ bv cs 18 6 = c % 64 := by
  rw [bv_6, bv_6, bv_6, bv_6]
  simp only [bit, Nat.reduceAdd, Nat.reduceDiv, Nat.reduceMod, Nat.reduceSub, Nat.zero_div, Nat.zero_mod, Nat.sub_zero, Nat.zero_add, e0, e1, e2, Int.reducePow, Int.ediv_one]
  omega
theorem lets_4 {xs : List Int} (hI : In .u8 xs) (j : Nat) : lets xs (4 * j + 1) = lets xs (4 * j) ++ [ltr ((chunk 3 xs j).getD 0 0 / 4)] ∧ lets xs (4 * j + 2) = lets xs (4 * j + 1) ++ [ltr ((chunk 3 xs j).getD 0 0 % 4 * 16 + (chunk 3 xs j).getD 1 0 / 16)] ∧
    lets xs (4 * j + 3) = lets xs (4 * j + 2) ++ [ltr ((chunk 3 xs j).getD 1 0 % 16 * 4 + (chunk 3 xs j).getD 2 0 / 64)] ∧ lets xs (4 * j + 4) = lets xs (4 * j + 3) ++ [ltr ((chunk 3 xs j).getD 2 0 % 64)] := by
  have hc : In .u8 (chunk 3 xs j) := chunk_in hI j
  obtain ⟨h0, h1, h2, h3⟩ := let_4 (cs := chunk 3 xs j) rfl rfl rfl (hc.at_ 0) (hc.at_ 1) (hc.at_ 2)
  rw [← h0, ← h1, ← h2, ← h3, ← bv_chunk xs j 0 6 (by omega), ← bv_chunk xs j 6 6 (by omega), ← bv_chunk xs j 12 6 (by omega), ← bv_chunk xs j 18 6 (by omega)]
  refine ⟨?_, ?_, ?_, ?_⟩
  · rw [lets, show 6 * (4 * j) = 24 * j + 0 by omega]
  · rw [lets, show 6 * (4 * j + 1) = 24 * j + 6 by omega]
  · rw [lets, show 6 * (4 * j + 2) = 24 * j + 12 by omega]
  · rw [lets, show 6 * (4 * j + 3) = 24 * j + 18 by omega]
theorem lets_encN {xs : List Int} (hI : In .u8 xs) : ∀ j, 3 * j ≤ xs.length → lets xs (4 * j) = encN xs j
  | 0, _ => rfl
  | j + 1, h => by
    obtain ⟨e1, e2, e3, e4⟩ := lets_4 hI j
    have hl : (chunk 3 xs j).length = 3 := by rw [chunk_len]; omega
    rcases one_of (chunk_in (n := 3) hI j) (by omega) (by omega) with ⟨a, e, _⟩ | ⟨a, b, e, _⟩ | ⟨a, b, c, e, ha, hb, hc⟩
    · rw [e] at hl; simp at hl
    · rw [e] at hl; simp at hl
    · rw [show 4 * (j + 1) = 4 * j + 4 by omega, e4, e3, e2, e1, lets_encN hI j (by omega), encN, e, enc_g3 ha hb hc]
      simp
/-- How many letters, and how many strokes. -/
def nl (n : Nat) : Nat := (8 * n + 5) / 6
def npad (n : Nat) : Nat := (4 - nl n % 4) % 4
theorem nl_le (n : Nat) : nl n ≤ 2 * n + 5 ∧ npad n ≤ 3 := by unfold npad nl; omega
theorem enc_lets {xs : List Int} (hI : In .u8 xs) : enc xs = lets xs (nl xs.length) ++ List.replicate (npad xs.length) 61 := by
  obtain ⟨j, r, hr, hx⟩ : ∃ j r, r < 3 ∧ xs.length = 3 * j + r := ⟨xs.length / 3, xs.length % 3, by omega, by omega⟩
  have hL := lets_encN hI j (by omega)
  obtain ⟨e1, e2, e3, e4⟩ := lets_4 hI j
  have hl : (chunk 3 xs j).length = r := by rw [chunk_len]; omega
  have hn : nl xs.length = 4 * j + (if r = 0 then 0 else r + 1) := by unfold nl; split <;> omega
  have hp : npad xs.length = if r = 0 then 0 else 3 - r := by unfold npad; rw [hn]; split <;> omega
  rw [enc, hn, hp]
  obtain rfl | rfl | rfl : r = 0 ∨ r = 1 ∨ r = 2 := by omega
  · simp only [if_true]
    rw [show (xs.length + 2) / 3 = j by omega, Nat.add_zero, hL]
    simp
  · simp only [Nat.reduceEqDiff, if_false, Nat.reduceAdd, Nat.reduceSub, Nat.one_ne_zero, Nat.succ_ne_self]
    rw [show (xs.length + 2) / 3 = j + 1 by omega, encN, ← hL]
    rcases one_of (chunk_in (n := 3) hI j) (by omega) (by omega) with ⟨a, e, ha⟩ | ⟨a, b, e, _⟩ | ⟨a, b, c, e, _⟩
    · rw [e, enc_g1 ha, e2, e1, e]
      simp [List.replicate]
    · rw [e] at hl; simp at hl
    · rw [e] at hl; simp at hl
  · simp only [Nat.reduceEqDiff, if_false, Nat.reduceAdd, Nat.reduceSub, Nat.one_ne_zero, Nat.succ_ne_self]
    rw [show (xs.length + 2) / 3 = j + 1 by omega, encN, ← hL]
    rcases one_of (chunk_in (n := 3) hI j) (by omega) (by omega) with ⟨a, e, _⟩ | ⟨a, b, e, ha, hb⟩ | ⟨a, b, c, e, _⟩
    · rw [e] at hl; simp at hl
    · rw [e, enc_g2 ha hb, e3, e2, e1, e]
      simp [List.replicate]
    · rw [e] at hl; simp at hl
/-! ### Bytes by bits -/
def rd (L : List Int) : Nat → List Int × Int × Nat
  | 0 => ([], 0, 0)
  | i + 1 => if 8 ≤ (rd L i).2.2 + 6 then ((rd L i).1 ++ [((rd L i).2.1 * 64 + dec (L.getD i 0)) / 2 ^ ((rd L i).2.2 + 6 - 8) % 256], ((rd L i).2.1 * 64 + dec (L.getD i 0)) % 2 ^ ((rd L i).2.2 + 6 - 8), (rd L i).2.2 + 6 - 8)
    else ((rd L i).1, (rd L i).2.1 * 64 + dec (L.getD i 0), (rd L i).2.2 + 6)
theorem rd_ge {L o : List Int} {v : Int} {b i : Nat} (h : rd L i = (o, v, b)) (hb : 8 ≤ b + 6) : rd L (i + 1) = (o ++ [(v * 64 + dec (L.getD i 0)) / 2 ^ (b + 6 - 8) % 256], (v * 64 + dec (L.getD i 0)) % 2 ^ (b + 6 - 8), b + 6 - 8) := by
  rw [rd, h, if_pos hb]
theorem rd_lt {L o : List Int} {v : Int} {b i : Nat} (h : rd L i = (o, v, b)) (hb : ¬ 8 ≤ b + 6) : rd L (i + 1) = (o, v * 64 + dec (L.getD i 0), b + 6) := by
  rw [rd, h, if_neg hb]
theorem lets_at {xs : List Int} {m : Nat} : ∀ {n}, m < n → (lets xs n).getD m 0 = ltr (bv xs (6 * m) 6)
  | 0, h => by omega
  | n + 1, h => by
    rw [lets]
    rcases Nat.lt_or_ge m n with h1 | h1
    · rw [getD_l (by rw [lets_len]; exact h1), lets_at h1]
    · rw [getD_r (by rw [lets_len]; exact h1), lets_len, show m - n = 0 by omega, show m = n by omega]
      rfl
theorem dec_let {xs L : List Int} {n m : Nat} (hL : ∀ i, i < n → L.getD i 0 = (lets xs n).getD i 0) (h : m < n) : dec (L.getD m 0) = bv xs (6 * m) 6 := by
  rw [hL m h, lets_at h]
  have := bv_63 (xs := xs) (p := 6 * m) (Nat.le_refl 6)
  exact dec_ltr (by omega)
theorem rd_4 {xs L : List Int} (hI : In .u8 xs) {n : Nat} (hL : ∀ i, i < n → L.getD i 0 = (lets xs n).getD i 0) {j : Nat} {o : List Int} (h : rd L (4 * j) = (o, 0, 0)) :
    (4 * j + 2 ≤ n → (rd L (4 * j + 2)).1 = o ++ [(chunk 3 xs j).getD 0 0]) ∧ (4 * j + 3 ≤ n → (rd L (4 * j + 3)).1 = o ++ [(chunk 3 xs j).getD 0 0, (chunk 3 xs j).getD 1 0]) ∧
    (4 * j + 4 ≤ n → rd L (4 * j + 4) = (o ++ [(chunk 3 xs j).getD 0 0, (chunk 3 xs j).getD 1 0, (chunk 3 xs j).getD 2 0], 0, 0)) := by
  have hc : In .u8 (chunk 3 xs j) := chunk_in hI j
  obtain ⟨h0, h1, h2, h3⟩ := let_4 (cs := chunk 3 xs j) rfl rfl rfl (hc.at_ 0) (hc.at_ 1) (hc.at_ 2)
  have ba : 0 ≤ (chunk 3 xs j).getD 0 0 ∧ (chunk 3 xs j).getD 0 0 < 256 := hc.at_ 0
  have bb : 0 ≤ (chunk 3 xs j).getD 1 0 ∧ (chunk 3 xs j).getD 1 0 < 256 := hc.at_ 1
  have bc : 0 ≤ (chunk 3 xs j).getD 2 0 ∧ (chunk 3 xs j).getD 2 0 < 256 := hc.at_ 2
  rw [← bv_chunk xs j 0 6 (by omega)] at h0
  rw [← bv_chunk xs j 6 6 (by omega)] at h1
  rw [← bv_chunk xs j 12 6 (by omega)] at h2
  rw [← bv_chunk xs j 18 6 (by omega)] at h3
  generalize (chunk 3 xs j).getD 0 0 = a at *
  generalize (chunk 3 xs j).getD 1 0 = b at *
  generalize (chunk 3 xs j).getD 2 0 = c at *
  have r1 : 4 * j + 1 ≤ n → rd L (4 * j + 1) = (o, a / 4, 6) := fun hn => by
    rw [rd_lt h (by decide), dec_let hL (by omega), show 6 * (4 * j) = 24 * j + 0 by omega, h0]
    simp
  have r2 : 4 * j + 2 ≤ n → rd L (4 * j + 2) = (o ++ [a], b / 16, 4) := fun hn => by
    rw [rd_ge (r1 (by omega)) (by decide), dec_let hL (by omega), show 6 * (4 * j + 1) = 24 * j + 6 by omega, h1]
    simp only [Nat.reduceAdd, Nat.reduceSub, Int.reducePow, Prod.mk.injEq, List.append_cancel_left_eq, List.cons.injEq, and_true]
    omega
  have r3 : 4 * j + 3 ≤ n → rd L (4 * j + 3) = (o ++ [a, b], c / 64, 2) := fun hn => by
    rw [rd_ge (r2 (by omega)) (by decide), dec_let hL (by omega), show 6 * (4 * j + 2) = 24 * j + 12 by omega, h2]
    simp only [Nat.reduceAdd, Nat.reduceSub, Int.reducePow, Prod.mk.injEq, List.append_assoc, List.cons_append, List.nil_append, List.append_cancel_left_eq, List.cons.injEq, and_true, true_and]
    omega
  have r4 : 4 * j + 4 ≤ n → rd L (4 * j + 4) = (o ++ [a, b, c], 0, 0) := fun hn => by
    rw [rd_ge (r3 (by omega)) (by decide), dec_let hL (by omega), show 6 * (4 * j + 3) = 24 * j + 18 by omega, h3]
    simp only [Nat.reduceAdd, Nat.reduceSub, Int.reducePow, Prod.mk.injEq, List.append_assoc, List.cons_append, List.nil_append, List.append_cancel_left_eq, List.cons.injEq, and_true, true_and]
    omega
  exact ⟨fun hn => by rw [r2 hn], fun hn => by rw [r3 hn], r4⟩
theorem take3 (xs : List Int) (j : Nat) : xs.take (3 * (j + 1)) = xs.take (3 * j) ++ chunk 3 xs j := by rw [Nat.mul_add, Nat.mul_one, List.take_add, chunk]
theorem rd_full {xs L : List Int} (hI : In .u8 xs) (hL : ∀ i, i < nl xs.length → L.getD i 0 = (lets xs (nl xs.length)).getD i 0) : ∀ j, 3 * j ≤ xs.length → rd L (4 * j) = (xs.take (3 * j), 0, 0)
  | 0, _ => by simp [rd]
  | j + 1, h => by
    have hr := (rd_4 hI hL (rd_full hI hL j (by omega))).2.2 (by unfold nl; omega)
    have hl : (chunk 3 xs j).length = 3 := by rw [chunk_len]; omega
    rw [show 4 * (j + 1) = 4 * j + 4 by omega, hr, take3]
    rcases one_of (chunk_in (n := 3) hI j) (by omega) (by omega) with ⟨a, e, _⟩ | ⟨a, b, e, _⟩ | ⟨a, b, c, e, ha, hb, hc⟩
    · rw [e] at hl; simp at hl
    · rw [e] at hl; simp at hl
    · rw [e]; rfl
theorem rd_enc {xs L : List Int} (hI : In .u8 xs) (hL : ∀ i, i < nl xs.length → L.getD i 0 = (lets xs (nl xs.length)).getD i 0) : (rd L (nl xs.length)).1 = xs := by
  obtain ⟨j, r, hr, hx⟩ : ∃ j r, r < 3 ∧ xs.length = 3 * j + r := ⟨xs.length / 3, xs.length % 3, by omega, by omega⟩
  have h4 := rd_full hI hL j (by omega)
  have hl : (chunk 3 xs j).length = r := by rw [chunk_len]; omega
  have ht : xs = xs.take (3 * j) ++ chunk 3 xs j := by rw [← take3, List.take_of_length_le (by omega)]
  obtain ⟨q2, q3, _⟩ := rd_4 hI hL h4
  obtain rfl | rfl | rfl : r = 0 ∨ r = 1 ∨ r = 2 := by omega
  · rw [show nl xs.length = 4 * j by unfold nl; omega, h4]
    exact List.take_of_length_le (by omega)
  · have hn : nl xs.length = 4 * j + 2 := by unfold nl; omega
    rw [hn, q2 (by omega)]
    rcases one_of (chunk_in (n := 3) hI j) (by omega) (by omega) with ⟨a, e, ha⟩ | ⟨a, b, e, _⟩ | ⟨a, b, c, e, _⟩
    · rw [e] at ht ⊢; exact ht.symm
    · rw [e] at hl; simp at hl
    · rw [e] at hl; simp at hl
  · have hn : nl xs.length = 4 * j + 3 := by unfold nl; omega
    rw [hn, q3 (by omega)]
    rcases one_of (chunk_in (n := 3) hI j) (by omega) (by omega) with ⟨a, e, _⟩ | ⟨a, b, e, ha, hb⟩ | ⟨a, b, c, e, _⟩
    · rw [e] at hl; simp at hl
    · rw [e] at ht ⊢; exact ht.symm
    · rw [e] at hl; simp at hl
def noeq (L : List Int) : Nat → Bool
  | 0 => true
  | i + 1 => noeq L i && decide (L.getD i 0 ≠ 61)
theorem noeq_at {L : List Int} : ∀ {n i}, noeq L n = true → i < n → L.getD i 0 ≠ 61
  | 0, i, _, h => by omega
  | n + 1, i, hn, h => by
    simp only [noeq, Bool.and_eq_true, decide_eq_true_eq] at hn
    rcases Nat.lt_or_ge i n with h1 | h1
    · exact noeq_at hn.1 h1
    · rw [show i = n by omega]; exact hn.2
theorem enc_parts {xs : List Int} (hI : In .u8 xs) {i : Nat} : (i < nl xs.length → (enc xs).getD i 0 = (lets xs (nl xs.length)).getD i 0) ∧ (nl xs.length ≤ i → i < (enc xs).length → (enc xs).getD i 0 = 61) := by
  have e := enc_lets hI
  refine ⟨fun h => by rw [e, getD_l (by rw [lets_len]; exact h)], fun h1 h2 => ?_⟩
  rw [e, List.length_append, lets_len, List.length_replicate] at h2
  rw [e, getD_r (by rw [lets_len]; exact h1), lets_len, List.getD_eq_getElem?_getD, List.getElem?_replicate, if_pos (by omega), Option.getD_some]
/-- A letter that is none: refused. -/
theorem ref_bad {L : List Int} {i : Nat} (hI : In .u8 L) (hi : i < L.length) (h61 : L.getD i 0 ≠ 61) (hd : dec (L.getD i 0) < 0) : bytesP L = none := by
  cases h : bytesP L with
  | none => rfl
  | some x =>
    obtain ⟨e, hx⟩ := enc_bytes hI h
    subst e
    obtain ⟨p1, p2⟩ := enc_parts hx (i := i)
    rcases Nat.lt_or_ge i (nl x.length) with h1 | h1
    · rw [p1 h1, lets_at h1] at hd
      have := bv_63 (xs := x) (p := 6 * i) (Nat.le_refl 6)
      rw [dec_ltr (by omega)] at hd
      omega
    · exact absurd (p2 h1 hi) h61
theorem ref_out {L o : List Int} {i : Nat} (hI : In .u8 L) (hn : noeq L i = true) (hi : i ≤ L.length) (he : i < L.length → L.getD i 0 = 61) (ho : (rd L i).1 = o) {x : List Int} (h : bytesP L = some x) : o = x := by
  obtain ⟨e, hx⟩ := enc_bytes hI h
  subst e
  have hlen : (enc x).length = nl x.length + npad x.length := by rw [enc_lets hx, List.length_append, lets_len, List.length_replicate]
  have h1 : i ≤ nl x.length := by
    rcases Nat.lt_or_ge (nl x.length) i with h1 | h1
    · exact absurd ((enc_parts hx).2 (Nat.le_refl _) (by omega)) (noeq_at hn h1)
    · exact h1
  have h2 : nl x.length ≤ i := by
    rcases Nat.lt_or_ge i (nl x.length) with h2 | h2
    · have := he (by omega)
      rw [(enc_parts hx).1 h2] at this
      exact absurd this (lets_ne x _ i h2)
    · exact h2
  rw [show i = nl x.length by omega] at ho
  rw [← ho]
  exact rd_enc hx (fun i hi => (enc_parts hx).1 hi)
theorem ref_no {L o : List Int} {i : Nat} (hI : In .u8 L) (hn : noeq L i = true) (hi : i ≤ L.length) (he : i < L.length → L.getD i 0 = 61) (ho : (rd L i).1 = o) (hne : enc o ≠ L) : bytesP L = none := by
  cases h : bytesP L with
  | none => rfl
  | some x =>
    have := ref_out hI hn hi he ho h
    subst this
    exact absurd (enc_bytes hI h).1 hne
theorem ref_yes {L o : List Int} (hI : In .u8 o) (he : enc o = L) : bytesP L = some o := by rw [← he]; exact bytes_enc hI
theorem sb_one {s : ByteArray} {i : Int} (hi : 0 ≤ i) (h : i < s.size) : sb (ByteArray.extract s i.toNat (i + 1).toNat) = [(sb s).getD i.toNat 0] := by
  have hl : i.toNat < (sb s).length := by rw [sb_len]; omega
  rw [sb_ext, show (i + 1).toNat - i.toNat = 1 by omega, List.drop_eq_getElem_cons hl, List.take_succ_cons, List.take_zero, List.getD_eq_getElem?_getD, List.getElem?_eq_getElem hl]
  rfl
theorem let_eq {s : ByteArray} {i k : Int} (hi : 0 ≤ i) (h : i < s.size) (hk : 0 ≤ k ∧ k < 64) : strOfNums [ltr k] = ByteArray.extract s i.toNat (i + 1).toNat ↔ dec ((sb s).getD i.toNat 0) = k := by
  have hb : 0 ≤ (sb s).getD i.toNat 0 ∧ (sb s).getD i.toNat 0 < 256 := (In.sb s).at_ _
  constructor
  · intro e
    have e2 := congrArg sb e
    rw [sb_one hi h, sb_str (In.cons (ltr_bd k) (In.nil _))] at e2
    injection e2 with e3
    rw [← e3, dec_ltr hk]
  · intro e
    rw [← str_sb (ByteArray.extract s i.toNat (i + 1).toNat), sb_one hi h, ← e, ltr_dec hb (by omega)]
theorem letx_yes {s : ByteArray} {i k : Int} (hi : 0 ≤ i) (h : i < s.size) (hk : 0 ≤ k ∧ k < 64) (h5 : strOfNums [ltr k] = ByteArray.extract s i.toNat (i + 1).toNat) : k = if 0 ≤ dec ((sb s).getD i.toNat 0) ∧ dec ((sb s).getD i.toNat 0) < k + 1 then dec ((sb s).getD i.toNat 0) else -1 := by
  have e := (let_eq hi h hk).1 h5
  rw [e, if_pos (by omega)]
theorem letx_no {s : ByteArray} {i k x : Int} (hi : 0 ≤ i) (h : i < s.size) (hk : 0 ≤ k ∧ k < 64) (hx : x = if 0 ≤ dec ((sb s).getD i.toNat 0) ∧ dec ((sb s).getD i.toNat 0) < k then dec ((sb s).getD i.toNat 0) else -1) (h5 : ¬ strOfNums [ltr k] = ByteArray.extract s i.toNat (i + 1).toNat) :
    x = if 0 ≤ dec ((sb s).getD i.toNat 0) ∧ dec ((sb s).getD i.toNat 0) < k + 1 then dec ((sb s).getD i.toNat 0) else -1 := by
  have e : ¬ dec ((sb s).getD i.toNat 0) = k := fun e => h5 ((let_eq hi h hk).2 e)
  rw [hx]
  split
  · rw [if_pos (by omega)]
  · rw [if_neg (by omega)]
theorem letx_end {s : ByteArray} {i k x : Int} (hk : ¬ k < 64) (hx : x = if 0 ≤ dec ((sb s).getD i.toNat 0) ∧ dec ((sb s).getD i.toNat 0) < k then dec ((sb s).getD i.toNat 0) else -1) : x = dec ((sb s).getD i.toNat 0) := by
  have hb := dec_bd ((In.sb s).at_ i.toNat)
  rw [hx]
  split
  · rfl
  · omega
theorem and_modi (k : Nat) {a m : Int} (hk : m = 2 ^ k - 1) (hk2 : k < 32) (ha : 0 ≤ a ∧ a < 4294967296) : bits2 .and .i64 a m = a % (m + 1) := by
  have h32 : (2 : Int) ^ k ≤ 2 ^ 32 := by exact_mod_cast Nat.pow_le_pow_right (show 0 < 2 by decide) (show k ≤ 32 by omega)
  have e32 : (2 : Int) ^ 32 = 4294967296 := by decide
  have hp : (0 : Int) < 2 ^ k := Int.pow_pos (by decide)
  have eb : (2 : Int) ^ IntKind.bits .i64 = 18446744073709551616 := by decide
  simp only [bits2, BitVec.toNat_and, toNat_ofInt _ _ ha.1 (show a < 2 ^ IntKind.bits .i64 by omega), toNat_ofInt _ _ (show 0 ≤ m by omega) (show m < 2 ^ IntKind.bits .i64 by omega)]
  obtain ⟨n, rfl⟩ := Int.eq_ofNat_of_zero_le ha.1
  have em : m.toNat = 2 ^ k - 1 := by
    have : ((2 ^ k - 1 : Nat) : Int) = 2 ^ k - 1 := by
      have h1 : 1 ≤ 2 ^ k := Nat.one_le_two_pow
      push_cast [h1]
      rfl
    omega
  rw [em, Int.toNat_natCast, Nat.and_two_pow_sub_one_eq_mod, hk]
  have e1 : ((n % 2 ^ k : Nat) : Int) = (n : Int) % 2 ^ k := by push_cast; rfl
  have hlt : n % 2 ^ k ≤ n := Nat.mod_le _ _
  rw [show (2 : Int) ^ k - 1 + 1 = 2 ^ k by omega, ← e1]
  simp only [IntKind.wrap, IntKind.bits, IntKind.signed]
  generalize n % 2 ^ k = q at *
  simp
  omega
theorem pw_bd {b v : Int} (hb : (b = 0 ∧ v = 0) ∨ (b = 2 ∧ 0 ≤ v ∧ v < 4) ∨ (b = 4 ∧ 0 ≤ v ∧ v < 16) ∨ (b = 6 ∧ 0 ≤ v ∧ v < 64)) : ((1 : Int) ≤ 2 ^ min (b + 6 - 8).toNat 64 ∧ (2 : Int) ^ min (b + 6 - 8).toNat 64 ≤ 16) ∧ (1 ≤ ((2 ^ min (b + 6 - 8).toNat 64 : Nat) : Int) ∧ ((2 ^ min (b + 6 - 8).toNat 64 : Nat) : Int) ≤ 16) := by
  rcases hb with ⟨rfl, _⟩ | ⟨rfl, _⟩ | ⟨rfl, _⟩ | ⟨rfl, _⟩ <;> decide
theorem rd_yes {L os : List Int} {i b v x : Int} (hi : 0 ≤ i) (hr : rd L i.toNat = (os, v, b.toNat)) (hb : (b = 0 ∧ v = 0) ∨ (b = 2 ∧ 0 ≤ v ∧ v < 4) ∨ (b = 4 ∧ 0 ≤ v ∧ v < 16) ∨ (b = 6 ∧ 0 ≤ v ∧ v < 64)) (hx : x = dec (L.getD i.toNat 0)) (hxb : 0 ≤ x ∧ x ≤ 63) (h8 : b + 6 ≥ 8) :
    rd L (i + 1).toNat = (os ++ [IntKind.wrap .u8 ((v * 64 + x) / 2 ^ min (b + 6 - 8).toNat 64)], bits2 .and .i64 (v * 64 + x) (1 * 2 ^ min (b + 6 - 8).toNat 64 - 1), (b + 6 - 8).toNat) ∧
    (((b + 6 - 8 = 0 ∧ bits2 .and .i64 (v * 64 + x) (1 * 2 ^ min (b + 6 - 8).toNat 64 - 1) = 0) ∨ (b + 6 - 8 = 2 ∧ 0 ≤ bits2 .and .i64 (v * 64 + x) (1 * 2 ^ min (b + 6 - 8).toNat 64 - 1) ∧ bits2 .and .i64 (v * 64 + x) (1 * 2 ^ min (b + 6 - 8).toNat 64 - 1) < 4) ∨ (b + 6 - 8 = 4 ∧ 0 ≤ bits2 .and .i64 (v * 64 + x) (1 * 2 ^ min (b + 6 - 8).toNat 64 - 1) ∧ bits2 .and .i64 (v * 64 + x) (1 * 2 ^ min (b + 6 - 8).toNat 64 - 1) < 16) ∨ (b + 6 - 8 = 6 ∧ 0 ≤ bits2 .and .i64 (v * 64 + x) (1 * 2 ^ min (b + 6 - 8).toNat 64 - 1) ∧ bits2 .and .i64 (v * 64 + x) (1 * 2 ^ min (b + 6 - 8).toNat 64 - 1) < 64))) := by
  have hv : 0 ≤ v ∧ v < 64 := by omega
  have hm : bits2 .and .i64 (v * 64 + x) (1 * 2 ^ min (b + 6 - 8).toNat 64 - 1) = (v * 64 + x) % 2 ^ min (b + 6 - 8).toNat 64 := by
    rw [and_modi (min (b + 6 - 8).toNat 64) (by omega) (by omega) (by omega), show (1 : Int) * 2 ^ min (b + 6 - 8).toNat 64 - 1 + 1 = 2 ^ min (b + 6 - 8).toNat 64 by omega]
  rw [hm, wrap8, hx, show (i + 1).toNat = i.toNat + 1 by omega, rd_ge hr (by omega), show min (b + 6 - 8).toNat 64 = b.toNat + 6 - 8 by omega, show (b + 6 - 8).toNat = b.toNat + 6 - 8 by omega]
  refine ⟨rfl, ?_⟩
  rcases hb with ⟨rfl, _⟩ | ⟨rfl, _⟩ | ⟨rfl, _⟩ | ⟨rfl, _⟩
  · omega
  · left; refine ⟨by omega, ?_⟩; rw [show (2 : Int).toNat + 6 - 8 = 0 by decide, Int.pow_zero, Int.emod_one]
  · right; left; rw [show (4 : Int).toNat + 6 - 8 = 2 by decide, show (2 : Int) ^ 2 = 4 by decide]; omega
  · right; right; left; rw [show (6 : Int).toNat + 6 - 8 = 4 by decide, show (2 : Int) ^ 4 = 16 by decide]; omega
theorem rd_not {L os : List Int} {i b v x : Int} (hi : 0 ≤ i) (hr : rd L i.toNat = (os, v, b.toNat)) (hb : (b = 0 ∧ v = 0) ∨ (b = 2 ∧ 0 ≤ v ∧ v < 4) ∨ (b = 4 ∧ 0 ≤ v ∧ v < 16) ∨ (b = 6 ∧ 0 ≤ v ∧ v < 64)) (hx : x = dec (L.getD i.toNat 0)) (h8 : ¬ b + 6 ≥ 8) :
    rd L (i + 1).toNat = (os, v * 64 + x, (b + 6).toNat) := by
  rw [hx, show (i + 1).toNat = i.toNat + 1 by omega, rd_lt hr (by omega), show (b + 6).toNat = b.toNat + 6 by omega]
theorem texts_ok {xs zs : List Int} {ok : Bool} (hI : In .u8 xs) (hz : bytesP (sb (strOfNums (enc xs))) = if ok = true then some zs else none) : ok = true ∧ zs = xs := by
  rw [sb_str (enc_in xs), bytes_enc hI] at hz
  cases ok with
  | false => simp at hz
  | true => simp only [if_true, Option.some.injEq] at hz; exact ⟨rfl, hz.symm⟩
theorem reads_same {o : Option (List Int)} {zs ys : List Int} {ok is : Bool} (h1 : o = if ok = true then some zs else none) (h2 : o = if is = true then some ys else none) (z1 : ok = false → zs = []) (z2 : is = false → ys = []) : ok = is ∧ zs = ys := by
  subst h1
  cases ok <;> cases is <;> simp_all
theorem reads_back {s : ByteArray} {zs : List Int} {ok : Bool} (h1 : bytesP (sb s) = if ok = true then some zs else none) (hk : ok = true) : strOfNums (enc zs) = s := by
  rw [hk, if_pos rfl] at h1
  rw [(enc_bytes (In.sb s) h1).1, str_sb]
end Go.Proofs.YtjhinpmnpdgadaaDoor.SL.B
