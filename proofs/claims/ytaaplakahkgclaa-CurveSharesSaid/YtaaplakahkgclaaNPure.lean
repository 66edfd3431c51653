/- Numbers of 32 bytes, the least first: plain laws. -/
import Derived.Test.YtaaplakahkgclaaFPure
namespace Go.Proofs.Ytaaplakahkgclaa.SL.N
set_option linter.unusedVariables false
set_option linter.unusedSimpArgs false
open Go Go.Proofs.Ytaaplakahkgclaa.SL Go.Proofs.Ytaaplakahkgclaa.SL.W Go.Proofs.Ytaaplakahkgclaa.SL.F

structure Dg (xs : List Int) (x : Int) : Prop where
  is : xs = leB x 32
  lo : 0 ≤ x
  hi : x < 115792089237316195423570985008687907853269984665640564039457584007913129639936
theorem p32 : (256 : Int) ^ 32 = 115792089237316195423570985008687907853269984665640564039457584007913129639936 := by decide
theorem Dg.len {xs : List Int} {x : Int} (h : Dg xs x) : xs.length = 32 := by rw [h.is, leB_len]
theorem Dg.inn {xs : List Int} {x : Int} (h : Dg xs x) : In .u8 xs := by rw [h.is]; exact leB_in _ _
theorem Dg.val {xs : List Int} {x : Int} (h : Dg xs x) : leN xs 32 = x := by
  rw [h.is, leN_leB, p32]
  exact Int.emod_eq_of_lt h.lo h.hi
theorem Dg.at {xs : List Int} {x : Int} (h : Dg xs x) (i : Nat) : 0 ≤ xs.getD i 0 ∧ xs.getD i 0 < 256 := h.inn.at_ i
theorem Dg.i64 {xs : List Int} {x : Int} (h : Dg xs x) : In .i64 xs := fun z hz => by
  have := h.inn z hz
  simp only [fits] at this ⊢
  omega
theorem leB_leN : ∀ (n : Nat) (xs : List Int), xs.length = n → In .u8 xs → leB (leN xs n) n = xs
  | 0, [], _, _ => rfl
  | n + 1, a :: t, hl, hx => by
    have ha : 0 ≤ a ∧ a < 256 := hx a List.mem_cons_self
    have ih := leB_leN n t (by simpa using hl) (fun y hy => hx y (List.mem_cons_of_mem _ hy))
    rw [leN_cons]
    show (a + 256 * leN t n) % 256 :: leB ((a + 256 * leN t n) / 256) n = _
    rw [show (a + 256 * leN t n) % 256 = a by omega, show (a + 256 * leN t n) / 256 = leN t n by omega, ih]
theorem Dg.of {xs : List Int} {x : Int} (hl : xs.length = 32) (hx : In .u8 xs) (hv : leN xs 32 = x) : Dg xs x := by
  have hb := leN_bd hx 32
  rw [p32, hv] at hb
  exact ⟨by rw [← hv, leB_leN 32 xs hl hx], hb.1, hb.2⟩
theorem Dg.inj {xs ys : List Int} {x y : Int} (h : Dg xs x) (h' : Dg ys y) : xs = ys ↔ x = y :=
  ⟨fun e => by rw [← h.val, ← h'.val, e], fun e => by rw [h.is, h'.is, e]⟩
def sumN (g : Nat → Int) : Nat → Int
  | 0 => 0
  | n + 1 => sumN g n + g n * 256 ^ n
theorem leN_succ (xs : List Int) (n : Nat) : leN xs (n + 1) = leN xs n + xs.getD n 0 * 256 ^ n := rfl
theorem leN_sum (xs : List Int) : ∀ n, leN xs n = sumN (fun i => xs.getD i 0) n
  | 0 => rfl
  | n + 1 => by rw [leN_succ, leN_sum xs n]; rfl
theorem sumN_congr {f g : Nat → Int} : ∀ {n : Nat}, (∀ i, i < n → f i = g i) → sumN f n = sumN g n
  | 0, _ => rfl
  | n + 1, h => by rw [sumN, sumN, sumN_congr (fun i hi => h i (by omega)), h n (by omega)]
theorem leN_eq {xs : List Int} {g : Nat → Int} {n : Nat} (h : ∀ i, i < n → xs.getD i 0 = g i) : leN xs n = sumN g n := by
  rw [leN_sum]
  exact sumN_congr h
theorem leN_same {xs ys : List Int} {n : Nat} (h : ∀ i, i < n → xs.getD i 0 = ys.getD i 0) : leN xs n = leN ys n := by
  rw [leN_eq h, ← leN_sum]
theorem leN_set {xs : List Int} {i : Nat} (v : Int) : ∀ {n : Nat}, i < n → i < xs.length → leN (xs.set i v) n = leN xs n + (v - xs.getD i 0) * 256 ^ i
  | n + 1, hi, hl => by
    rw [leN_succ, leN_succ]
    by_cases e : i = n
    · subst e
      rw [set_at hl, leN_same (ys := xs) (fun j hj => F.getD_set_ne (by omega) v), Int.sub_mul]
      omega
    · rw [leN_set v (by omega) hl, F.getD_set_ne e]
      omega
theorem leN_split (xs : List Int) (n : Nat) : ∀ m, leN xs (n + m) = leN xs n + 256 ^ n * leN (xs.drop n) m
  | 0 => by simp [leN]
  | m + 1 => by
    have e : (xs.drop n).getD m 0 = xs.getD (n + m) 0 := by simp [List.getD_eq_getElem?_getD]
    rw [← Nat.add_assoc, leN_succ, leN_split xs n m, leN_succ, e, Int.pow_add]
    grind
theorem mapP_get {f : Nat → Int} {xs : List Int} {n i : Nat} (h : i < n) : (mapP f xs n).getD i 0 = f i := by
  rw [mapP, List.getD_eq_getElem?_getD, List.getElem?_append_left (by simp; exact h)]
  simp [h]
theorem mapP_tail {f : Nat → Int} {xs : List Int} {n i : Nat} (h : n ≤ i) (hn : n ≤ xs.length) : (mapP f xs n).getD i 0 = xs.getD i 0 := by
  rw [mapP, getD_app_r (by simp; exact h)]
  simp [List.getD_eq_getElem?_getD, show n + (i - n) = i by omega]
def primeL : List Int := (mapP (fun _ => 255) (List.replicate 32 0) 32).set 0 237 |>.set 31 127
theorem primeL_dg : Dg primeL P := ⟨by decide +kernel, by decide, by decide⟩
theorem prime_step {i : Int} (h0 : 0 ≤ i) (h1 : i < 32) : (mapP (fun _ => 255) (List.replicate 32 0) i.toNat).set i.toNat 255 = mapP (fun _ => 255) (List.replicate 32 0) (i + 1).toNat := by
  rw [show (i + 1).toNat = i.toNat + 1 by omega]
  exact mapP_step _ _ _ (by simp; omega)
theorem mapP_zero (f : Nat → Int) (xs : List Int) : mapP f xs 0 = xs := by simp [mapP]
theorem drop_step {xs ys : List Int} {n : Nat} (hx : n < xs.length) (hy : n < ys.length) (h : xs.drop (n + 1) = ys.drop (n + 1)) (he : xs.getD n 0 = ys.getD n 0) : xs.drop n = ys.drop n := by
  rw [List.drop_eq_getElem_cons hx, List.drop_eq_getElem_cons hy, h]
  rw [List.getD_eq_getElem?_getD, List.getElem?_eq_getElem hx, List.getD_eq_getElem?_getD, List.getElem?_eq_getElem hy] at he
  simp only [Option.getD_some] at he
  rw [he]
theorem mul_sign {d e p : Int} (hp : 0 < p) (h0 : -p < e) (h1 : e < p) : (0 < d → 0 < d * p + e) ∧ (d < 0 → d * p + e < 0) := by
  constructor
  · intro h
    have := Int.mul_le_mul_of_nonneg_right (show 1 ≤ d by omega) (Int.le_of_lt hp)
    omega
  · intro h
    have := Int.mul_le_mul_of_nonneg_right (show d ≤ -1 by omega) (Int.le_of_lt hp)
    omega
theorem less_ret {xs ys : List Int} {x y : Int} {n : Nat} (hx : Dg xs x) (hy : Dg ys y) (hn : n < 32) (h : xs.drop (n + 1) = ys.drop (n + 1)) (hne : xs.getD n 0 ≠ ys.getD n 0) : decide (xs.getD n 0 < ys.getD n 0) = decide (x < y) := by
  have h1 := leN_split xs (n + 1) (31 - n)
  have h2 := leN_split ys (n + 1) (31 - n)
  rw [show n + 1 + (31 - n) = 32 by omega, hx.val, leN_succ] at h1
  rw [show n + 1 + (31 - n) = 32 by omega, hy.val, leN_succ] at h2
  rw [← h] at h2
  have b1 := leN_bd hx.inn n
  have b2 := leN_bd hy.inn n
  have hp : (0 : Int) < 256 ^ n := Int.pow_pos (by decide)
  have hs := mul_sign (d := xs.getD n 0 - ys.getD n 0) (e := leN xs n - leN ys n) hp (by omega) (by omega)
  have e : x - y = (xs.getD n 0 - ys.getD n 0) * 256 ^ n + (leN xs n - leN ys n) := by
    rw [h1, h2, Int.sub_mul]
    omega
  refine decide_eq_decide.2 ⟨fun hl => ?_, fun hl => ?_⟩
  · have := hs.2 (by omega); omega
  · rcases Int.lt_or_gt_of_ne hne with h3 | h3
    · exact h3
    · have := hs.1 (by omega); omega
theorem less_end {xs ys : List Int} {x y : Int} (hx : Dg xs x) (hy : Dg ys y) (h : xs.drop 0 = ys.drop 0) : false = decide (x < y) := by
  have : x = y := (hx.inj hy).1 (by simpa using h)
  symm
  exact decide_eq_false (by omega)
def bo (xs ys : List Int) : Nat → Int
  | 0 => 0
  | n + 1 => if xs.getD n 0 - ys.getD n 0 - bo xs ys n < 0 then 1 else 0
def sd (xs ys : List Int) (n : Nat) : Int := if xs.getD n 0 - ys.getD n 0 - bo xs ys n < 0 then xs.getD n 0 - ys.getD n 0 - bo xs ys n + 256 else xs.getD n 0 - ys.getD n 0 - bo xs ys n
theorem bo_bd (xs ys : List Int) (n : Nat) : 0 ≤ bo xs ys n ∧ bo xs ys n ≤ 1 := by
  cases n with
  | zero => simp [bo]
  | succ n => rw [bo]; split <;> omega
theorem sd_sum (xs ys : List Int) : ∀ n, sumN (sd xs ys) n = leN xs n - leN ys n + 256 ^ n * bo xs ys n
  | 0 => by simp [sumN, leN, bo]
  | n + 1 => by
    rw [sumN, sd_sum xs ys n, leN_succ, leN_succ, sd, bo, Int.pow_succ]
    split <;> grind
theorem minus_end {xs ys os : List Int} {x y : Int} (hx : Dg xs x) (hy : Dg ys y) (hle : y ≤ x) (ho : os = mapP (sd xs ys) xs 32) : Dg os (x - y) := by
  have hl : os.length = 32 := by rw [ho, mapP_len _ _ _ (by rw [hx.len]; decide), hx.len]
  have hd : ∀ i, i < 32 → os.getD i 0 = sd xs ys i := fun i hi => by rw [ho]; exact mapP_get hi
  have hin : In .u8 os := fun z hz => by
    obtain ⟨i, hi, rfl⟩ := List.mem_iff_getElem.1 hz
    have e := hd i (by omega)
    rw [List.getD_eq_getElem?_getD, List.getElem?_eq_getElem hi] at e
    simp only [Option.getD_some] at e
    rw [e, sd]
    have h1 := hx.at i
    have h2 := hy.at i
    have h3 := bo_bd xs ys i
    simp only [fits]
    split <;> omega
  have hv : leN os 32 = x - y + 256 ^ 32 * bo xs ys 32 := by rw [leN_eq hd, sd_sum, hx.val, hy.val]
  have hb := leN_bd hin 32
  have h3 := bo_bd xs ys 32
  have h4 := hx.hi
  have h5 := hy.lo
  rw [p32] at hb hv
  exact Dg.of hl hin (by omega)
theorem minus_step {xs ys os : List Int} {x c : Int} {i : Int} (hx : Dg xs x) (h0 : 0 ≤ i) (h1 : i < 32) (ho : os = mapP (sd xs ys) xs i.toNat) (hc : c = bo xs ys i.toNat) :
    (os.getD i.toNat 0 - ys.getD i.toNat 0 - c < 0 → os.set i.toNat (os.getD i.toNat 0 - ys.getD i.toNat 0 - c + 256) = mapP (sd xs ys) xs (i + 1).toNat ∧ 1 = bo xs ys (i + 1).toNat) ∧
    (¬ os.getD i.toNat 0 - ys.getD i.toNat 0 - c < 0 → os.set i.toNat (os.getD i.toNat 0 - ys.getD i.toNat 0 - c) = mapP (sd xs ys) xs (i + 1).toNat ∧ 0 = bo xs ys (i + 1).toNat) := by
  have e : os.getD i.toNat 0 = xs.getD i.toNat 0 := by rw [ho, mapP_at]
  rw [e, hc, show (i + 1).toNat = i.toNat + 1 by omega, ← mapP_step (sd xs ys) xs i.toNat (by rw [hx.len]; omega), ho, bo, sd]
  exact ⟨fun h => by rw [if_pos h, if_pos h]; exact ⟨rfl, rfl⟩, fun h => by rw [if_neg h, if_neg h]; exact ⟨rfl, rfl⟩⟩
theorem small_end {n : Int} (h0 : 0 ≤ n) (h1 : n < 4294967296) : Dg (mapP (fun i => n / 256 ^ i % 256) (List.replicate 32 0) 4) n := by
  refine ⟨?_, h0, by omega⟩
  have z : ∀ k, leB 0 k = List.replicate k 0 := fun k => by
    induction k with
    | zero => rfl
    | succ k ih => show 0 % 256 :: leB (0 / 256) k = _; rw [List.replicate_succ, show (0 : Int) / 256 = 0 from rfl, ih]; rfl
  have e := leB_add 4 28 n
  rw [show n / 256 ^ 4 = 0 by omega, z] at e
  rw [e]
  show [n / 256 ^ 0 % 256, n / 256 ^ 1 % 256, n / 256 ^ 2 % 256, n / 256 ^ 3 % 256] ++ List.replicate 28 0 = [n % 256, n / 256 % 256, n / 256 / 256 % 256, n / 256 / 256 / 256 % 256] ++ List.replicate 28 0
  rw [show n / 256 ^ 0 = n by omega, show n / 256 ^ 1 = n / 256 by omega, show n / 256 ^ 2 = n / 256 / 256 by omega, show n / 256 ^ 3 = n / 256 / 256 / 256 by omega]
theorem small_step {n i : Int} (h0 : 0 ≤ i) (h1 : i < 4) : (mapP (fun i => n / 256 ^ i % 256) (List.replicate 32 0) i.toNat).set i.toNat (n / 2 ^ (min (8 * i).toNat 32) % 256) = mapP (fun i => n / 256 ^ i % 256) (List.replicate 32 0) (i + 1).toNat := by
  have e : (2 : Int) ^ (min (8 * i).toNat 32) = 256 ^ i.toNat := by rw [pow256, show min (8 * i).toNat 32 = 8 * i.toNat by omega]
  rw [e, show (i + 1).toNat = i.toNat + 1 by omega]
  exact mapP_step (fun i => n / 256 ^ i % 256) _ _ (by simp; omega)
def cf (g : Nat → Int) : Nat → Int
  | 0 => 0
  | n + 1 => (g n + cf g n) / 256
def df (g : Nat → Int) (n : Nat) : Int := (g n + cf g n) % 256
theorem cf_sum (g : Nat → Int) : ∀ n, sumN (df g) n + 256 ^ n * cf g n = sumN g n
  | 0 => by simp [sumN, cf]
  | n + 1 => by
    have h := cf_sum g n
    have e : df g n + 256 * cf g (n + 1) = g n + cf g n := by rw [df, cf]; omega
    rw [sumN, sumN, ← h, Int.pow_succ]
    rw [show g n = df g n + 256 * cf g (n + 1) - cf g n by omega]
    grind
theorem cf_bd {g : Nat → Int} {B C : Int} (h : ∀ i, 0 ≤ g i ∧ g i ≤ B) (hC : 0 ≤ C) (hB : B + C ≤ 256 * C) : ∀ n, 0 ≤ cf g n ∧ cf g n ≤ C
  | 0 => ⟨Int.le_refl _, hC⟩
  | n + 1 => by
    have h1 := cf_bd h hC hB n
    have h2 := h n
    rw [cf]
    omega
def gs (os as : List Int) (i : Nat) : Int := os.getD i 0 + as.getD i 0
structure FB (as : List Int) : Prop where
  len : as.length ≤ 63
  le : ∀ e ∈ as, 0 ≤ e ∧ e ≤ 1099511627776
  small : 32 < as.length → ∀ e ∈ as, e ≤ 1073741824
theorem FB.at {as : List Int} (h : FB as) (i : Nat) : 0 ≤ as.getD i 0 ∧ as.getD i 0 ≤ 1099511627776 := by
  rw [List.getD_eq_getElem?_getD]
  rcases Nat.lt_or_ge i as.length with hi | hi
  · rw [List.getElem?_eq_getElem hi]; exact h.le _ (List.getElem_mem hi)
  · rw [List.getElem?_eq_none hi]; decide
theorem FB.ats {as : List Int} (h : FB as) (hl : 32 < as.length) (i : Nat) : as.getD i 0 ≤ 1073741824 := by
  rw [List.getD_eq_getElem?_getD]
  rcases Nat.lt_or_ge i as.length with hi | hi
  · rw [List.getElem?_eq_getElem hi]; exact h.small hl _ (List.getElem_mem hi)
  · rw [List.getElem?_eq_none hi]; decide
theorem FB.bnd {as : List Int} (h : FB as) : Bnd 0 1099511627777 as := ⟨by decide, by decide, fun e he => by have := h.le e he; omega⟩
theorem FB.i64 {as : List Int} (h : FB as) : In .i64 as := fun z hz => by
  have := h.le z hz
  simp only [fits]
  omega
theorem gs_cf {os as : List Int} (ho : In .u8 os) (h : FB as) (n : Nat) : 0 ≤ cf (gs os as) n ∧ cf (gs os as) n ≤ 17179869184 :=
  cf_bd (B := 1099511628032) (fun i => by
    have h1 := h.at i
    have h2 : 0 ≤ os.getD i 0 ∧ os.getD i 0 < 256 := ho.at_ i
    unfold gs
    omega) (by decide) (by decide) n
theorem gs_cfs {os as : List Int} (ho : In .u8 os) (h : FB as) (hl : 32 < as.length) (n : Nat) : cf (gs os as) n ≤ 16777216 :=
  (cf_bd (B := 1073742080) (C := 16777216) (fun i => by
    have h1 := h.at i
    have h3 := h.ats hl i
    have h2 : 0 ≤ os.getD i 0 ∧ os.getD i 0 < 256 := ho.at_ i
    unfold gs
    omega) (by decide) (by decide) n).2
theorem fold_step {os us as : List Int} {c : Int} {n : Nat} (hol : os.length = 32) (hn : n < 32) (hu : us = mapP (df (gs os as)) os n) (hc : c = cf (gs os as) n) :
    (us.set n ((us.getD n 0 + c + as.getD n 0) % 256) = mapP (df (gs os as)) os (n + 1) ∧ (us.getD n 0 + c + as.getD n 0) / 256 = cf (gs os as) (n + 1)) ∧
    (¬ n < as.length → us.set n ((us.getD n 0 + c) % 256) = mapP (df (gs os as)) os (n + 1) ∧ (us.getD n 0 + c) / 256 = cf (gs os as) (n + 1)) := by
  have e : us.getD n 0 = os.getD n 0 := by rw [hu, mapP_at]
  have key : us.set n ((us.getD n 0 + c + as.getD n 0) % 256) = mapP (df (gs os as)) os (n + 1) ∧ (us.getD n 0 + c + as.getD n 0) / 256 = cf (gs os as) (n + 1) := by
    rw [e, hc, show os.getD n 0 + cf (gs os as) n + as.getD n 0 = gs os as n + cf (gs os as) n by unfold gs; omega, hu]
    exact ⟨mapP_step (df (gs os as)) _ _ (by omega), rfl⟩
  refine ⟨key, fun h => ?_⟩
  have z : as.getD n 0 = 0 := getD_ge _ _ (by omega)
  rw [z, Int.add_zero] at key
  exact key
theorem df_in {os as : List Int} (hol : os.length = 32) (n : Nat) (ho : In .u8 os) : In .u8 (mapP (df (gs os as)) os n) := fun z hz => by
  rw [mapP] at hz
  rcases List.mem_append.1 hz with hz | hz
  · obtain ⟨i, _, rfl⟩ := List.mem_map.1 hz
    simp only [fits, df]
    omega
  · exact ho z (List.mem_of_mem_drop hz)
def hiN (as : List Int) : Int := leN (as.drop 32) (as.length - 32)
theorem leN_nil : ∀ n, leN [] n = 0
  | 0 => rfl
  | n + 1 => by rw [leN_succ, leN_nil n]; simp
theorem leN_ge {as : List Int} {n : Nat} (h : as.length ≤ n) : ∀ m, leN as (n + m) = leN as n
  | 0 => rfl
  | m + 1 => by rw [← Nat.add_assoc, leN_succ, leN_ge h m, getD_ge as _ (by omega)]; omega
theorem all_split (as : List Int) : leN as as.length = leN as 32 + 115792089237316195423570985008687907853269984665640564039457584007913129639936 * hiN as := by
  rcases Nat.lt_or_ge 32 as.length with h | h
  · have e := leN_split as 32 (as.length - 32)
    rw [show 32 + (as.length - 32) = as.length by omega, p32] at e
    exact e
  · have e := leN_ge (Nat.le_refl as.length) (32 - as.length)
    rw [show as.length + (32 - as.length) = 32 by omega] at e
    rw [e, hiN, List.drop_of_length_le h, leN_nil]
    omega
theorem leN_nonneg {as : List Int} (h : ∀ e ∈ as, 0 ≤ e) : ∀ n, 0 ≤ leN as n
  | 0 => Int.le_refl _
  | n + 1 => by
    have h1 := leN_nonneg h n
    have h2 : 0 ≤ as.getD n 0 := by
      rw [List.getD_eq_getElem?_getD]
      rcases Nat.lt_or_ge n as.length with hi | hi
      · rw [List.getElem?_eq_getElem hi]; exact h _ (List.getElem_mem hi)
      · rw [List.getElem?_eq_none hi]; decide
    have h3 := Int.mul_nonneg h2 (Int.le_of_lt (pow_pos' n))
    rw [leN_succ]
    omega
theorem hi_nonneg {as : List Int} (h : FB as) : 0 ≤ hiN as := leN_nonneg (fun e he => (h.le e (List.mem_of_mem_drop he)).1) _
theorem fold_round {os us as ns : List Int} {c : Int} (hol : os.length = 32) (ho : In .u8 os) (hF : FB as) (hu : us = mapP (df (gs os as)) os 32) (hc : c = cf (gs os as) 32) (hns : leN ns ns.length = 38 * (c + hiN as))
    (hl : (0 < c ∧ ns.length ≤ as.length) ∨ ns.length < as.length) :
    (leN us 32 + leN ns ns.length) % P = (leN os 32 + leN as as.length) % P ∧ (leN us 32 + leN ns ns.length).toNat + ns.length < (leN os 32 + leN as as.length).toNat + as.length := by
  have hs := cf_sum (gs os as) 32
  have e1 : leN us 32 = sumN (df (gs os as)) 32 := leN_eq (fun i hi => by rw [hu]; exact mapP_get hi)
  have e2 : ∀ n, sumN (gs os as) n = leN os n + leN as n := fun n => by
    induction n with
    | zero => rfl
    | succ n ih => rw [sumN, ih, leN_succ, leN_succ, gs, Int.add_mul]; omega
  rw [← e1, e2, ← hc, p32] at hs
  have hb := leN_nonneg (as := us) (fun e he => by
    have := df_in hol 32 ho e (by rw [← hu]; exact he)
    simp only [fits] at this
    exact this.1) 32
  have hc0 := (gs_cf ho hF 32).1
  rw [← hc] at hc0
  have hh := hi_nonneg hF
  have hT := all_split as
  rw [hns, hT]
  have e3 : leN os 32 + (leN as 32 + 115792089237316195423570985008687907853269984665640564039457584007913129639936 * hiN as) = leN us 32 + 38 * (c + hiN as) + P * (2 * (c + hiN as)) := by
    rw [← Int.add_assoc, ← hs]
    simp only [P]
    omega
  rw [e3]
  refine ⟨by rw [Int.add_mul_emod_self_left], ?_⟩
  simp only [P]
  omega
theorem leN_map38 (as : List Int) : ∀ n, leN (as.map (38 * ·)) n = 38 * leN as n
  | 0 => rfl
  | n + 1 => by
    have e : (as.map (38 * ·)).getD n 0 = 38 * as.getD n 0 := by
      simp only [List.getD_eq_getElem?_getD, List.getElem?_map]
      cases as[n]? <;> simp
    rw [leN_succ, leN_map38 as n, leN_succ, e, Int.mul_add, Int.mul_assoc]
def nxt (as : List Int) : List Int := (as.drop 32).map (38 * ·)
theorem nxt_len (as : List Int) : (nxt as).length = as.length - 32 := by simp [nxt]
theorem nxt_val (as : List Int) : leN (nxt as) (nxt as).length = 38 * hiN as := by
  rw [nxt_len, nxt, leN_map38, hiN]
theorem nxt_step (as : List Int) {j : Nat} (h0 : 32 ≤ j) (h : j < as.length) : ((as.drop 32).take (j - 32)).map (38 * ·) ++ [38 * as.getD j 0] = ((as.drop 32).take (j + 1 - 32)).map (38 * ·) := by
  rw [show j + 1 - 32 = (j - 32) + 1 by omega, take_snoc _ _ (by simp; omega), List.map_append]
  congr 1
  simp [List.getD_eq_getElem?_getD, show 32 + (j - 32) = j by omega]
theorem nxt_fb {os as : List Int} {c : Int} (ho : In .u8 os) (hF : FB as) (hl : 32 < as.length) (hc : c = cf (gs os as) 32) : FB (nxt as) ∧ FB ((nxt as).set 0 ((nxt as).getD 0 0 + 38 * c)) := by
  have hn := nxt_len as
  have h63 := hF.len
  have b : ∀ e ∈ nxt as, 0 ≤ e ∧ e ≤ 40802189312 := fun e he => by
    obtain ⟨x, hx, rfl⟩ := List.mem_map.1 he
    have h1 := hF.le x (List.mem_of_mem_drop hx)
    have h2 := hF.small hl x (List.mem_of_mem_drop hx)
    omega
  have c1 := (gs_cf ho hF 32).1
  have c2 := gs_cfs ho hF hl 32
  rw [← hc] at c1 c2
  have b0 : 0 ≤ (nxt as).getD 0 0 ∧ (nxt as).getD 0 0 ≤ 40802189312 := by
    rw [List.getD_eq_getElem?_getD]
    rcases Nat.lt_or_ge 0 (nxt as).length with hi | hi
    · rw [List.getElem?_eq_getElem hi]; exact b _ (List.getElem_mem hi)
    · rw [List.getElem?_eq_none hi]; decide
  refine ⟨⟨by omega, fun e he => by have := b e he; omega, fun h => by omega⟩, ⟨by rw [List.length_set]; omega, fun e he => ?_, fun h => by rw [List.length_set] at h; omega⟩⟩
  rcases List.mem_or_eq_of_mem_set he with he | rfl
  · have := b e he; omega
  · omega
theorem nxt_set {as : List Int} {c : Int} (hl : 32 < as.length) : leN ((nxt as).set 0 ((nxt as).getD 0 0 + 38 * c)) ((nxt as).set 0 ((nxt as).getD 0 0 + 38 * c)).length = 38 * (c + hiN as) := by
  have hn := nxt_len as
  rw [List.length_set, leN_set _ (by omega) (by omega), nxt_val]
  omega
theorem one_fb {os as : List Int} {c : Int} (ho : In .u8 os) (hF : FB as) (hc : c = cf (gs os as) 32) : FB [38 * c] := by
  have c1 := gs_cf ho hF 32
  rw [← hc] at c1
  exact ⟨by simp, fun e he => by rw [List.mem_singleton] at he; omega, fun h => by simp at h⟩
theorem hi_zero {as : List Int} (h : ¬ 32 < as.length) : hiN as = 0 := by rw [hiN, List.drop_of_length_le (by omega), leN_nil]
theorem nxt_all {as : List Int} {j : Nat} (h : as.length ≤ j) : ((as.drop 32).take (j - 32)).map (38 * ·) = nxt as := by
  rw [nxt, List.take_of_length_le (by simp; omega)]
def RoundOK (os us as ns : List Int) : Prop := FB ns ∧ (leN us 32 + leN ns ns.length) % P = (leN os 32 + leN as as.length) % P ∧ (leN us 32 + leN ns ns.length).toNat + ns.length < (leN os 32 + leN as as.length).toNat + as.length
section
variable {os us as nx : List Int} {c : Int} (hol : os.length = 32) (ho : In .u8 os) (hF : FB as) (hu : us = mapP (df (gs os as)) os 32) (hc : c = cf (gs os as) 32)
include hol ho hF hu hc
theorem round_a (hl : 32 < as.length) (hx : nx = nxt as) (h0 : 0 < c) : RoundOK os us as (nx.set 0 (nx.getD 0 0 + 38 * c)) := by
  subst hx
  have h := fold_round hol ho hF hu hc (nxt_set hl) (.inl ⟨h0, by rw [List.length_set, nxt_len]; omega⟩)
  exact ⟨(nxt_fb ho hF hl hc).2, h.1, h.2⟩
theorem round_b (hl : 32 < as.length) (hx : nx = nxt as) (h0 : ¬ 0 < c) : RoundOK os us as nx := by
  subst hx
  have hc0 := (gs_cf ho hF 32).1
  rw [← hc] at hc0
  have h := fold_round hol ho hF hu hc (by rw [nxt_val, show c = 0 by omega, Int.zero_add]) (.inr (by rw [nxt_len]; omega))
  exact ⟨(nxt_fb ho hF hl hc).1, h.1, h.2⟩
theorem round_c (hl : ¬ 32 < as.length) (hp : 0 < as.length) (h0 : 0 < c) : RoundOK os us as [0 + 38 * c] := by
  rw [Int.zero_add]
  have h := fold_round (ns := [38 * c]) hol ho hF hu hc (by rw [hi_zero hl]; simp [leN]) (.inl ⟨h0, by simp; omega⟩)
  exact ⟨one_fb ho hF hc, h.1, h.2⟩
theorem round_d (hl : ¬ 32 < as.length) (hp : 0 < as.length) (h0 : ¬ 0 < c) : RoundOK os us as [] := by
  have hc0 := (gs_cf ho hF 32).1
  rw [← hc] at hc0
  have h := fold_round (ns := []) hol ho hF hu hc (by rw [hi_zero hl, show c = 0 by omega]; rfl) (.inr (by simpa using hp))
  exact ⟨⟨by simp, fun e he => by simp at he, fun h => by simp at h⟩, h.1, h.2⟩
end
theorem map_snoc (f : Nat → Int) (n : Nat) : (List.range n).map f ++ [f n] = (List.range (n + 1)).map f := by rw [List.range_succ, List.map_append]; rfl
theorem map_get {f : Nat → Int} {n i : Nat} (h : i < n) : ((List.range n).map f).getD i 0 = f i := by simp [List.getD_eq_getElem?_getD, h]
theorem add_fb {xs ys ss : List Int} {x y : Int} (hx : Dg xs x) (hy : Dg ys y) (hs : ss = (List.range 32).map (gs xs ys)) : FB ss ∧ leN ss ss.length = x + y := by
  subst hs
  refine ⟨⟨by simp, fun e he => ?_, fun h => by simp at h⟩, ?_⟩
  · obtain ⟨i, _, rfl⟩ := List.mem_map.1 he
    have h1 := hx.at i
    have h2 := hy.at i
    unfold gs
    omega
  · have e2 : ∀ n, sumN (gs xs ys) n = leN xs n + leN ys n := fun n => by
      induction n with
      | zero => rfl
      | succ n ih => rw [sumN, ih, leN_succ, leN_succ, gs, Int.add_mul]; omega
    rw [show ((List.range 32).map (gs xs ys)).length = 32 by simp, leN_eq (fun i hi => map_get hi), e2, hx.val, hy.val]
theorem mul_bd8 {a b : Int} (ha : 0 ≤ a ∧ a < 256) (hb : 0 ≤ b ∧ b < 256) : 0 ≤ a * b ∧ a * b ≤ 65025 :=
  ⟨Int.mul_nonneg ha.1 hb.1, by have h := Int.mul_le_mul (show a ≤ 255 by omega) (show b ≤ 255 by omega) hb.1 (by decide); omega⟩
structure CB (m : Nat) (ss : List Int) : Prop where
  len : ss.length = 63
  le : ∀ e ∈ ss, 0 ≤ e ∧ e ≤ 65025 * m
theorem CB.bnd {m : Nat} {ss : List Int} (h : CB m ss) (hm : m ≤ 1024) : Bnd 0 66585601 ss := ⟨by decide, by decide, fun e he => by have := h.le e he; omega⟩
theorem CB.fb {ss : List Int} (h : CB 1024 ss) : FB ss := ⟨by rw [h.len]; decide, fun e he => by have := h.le e he; omega, fun _ e he => by have := h.le e he; omega⟩
theorem CB.at {m : Nat} {ss : List Int} (h : CB m ss) (i : Nat) : 0 ≤ ss.getD i 0 ∧ ss.getD i 0 ≤ 65025 * m := by
  rw [List.getD_eq_getElem?_getD]
  rcases Nat.lt_or_ge i ss.length with hi | hi
  · rw [List.getElem?_eq_getElem hi]; exact h.le _ (List.getElem_mem hi)
  · rw [List.getElem?_eq_none hi]; show (0 : Int) ≤ 0 ∧ (0 : Int) ≤ 65025 * m; omega
theorem CB.set {m : Nat} {ss : List Int} (h : CB m ss) (j : Nat) {q : Int} (hq : 0 ≤ q ∧ q ≤ 65025) : CB (m + 1) (ss.set j (ss.getD j 0 + q)) := by
  refine ⟨by rw [List.length_set, h.len], fun e he => ?_⟩
  rcases List.mem_or_eq_of_mem_set he with he | rfl
  · have := h.le e he; omega
  · have := h.at j; omega
theorem conv_step {xs ys ss : List Int} {i k : Nat} {y : Int} (hi : i < 32) (hk : k < 32) (hl : ss.length = 63) (h : leN ss 63 = leN xs i * y + xs.getD i 0 * 256 ^ i * leN ys k) :
    leN (ss.set (i + k) (ss.getD (i + k) 0 + xs.getD i 0 * ys.getD k 0)) 63 = leN xs i * y + xs.getD i 0 * 256 ^ i * leN ys (k + 1) := by
  rw [leN_set _ (by omega) (by omega), h, leN_succ, Int.pow_add]
  grind
theorem conv_row {xs ys ss : List Int} {i : Nat} {y : Int} (hy : leN ys 32 = y) (h : leN ss 63 = leN xs i * y + xs.getD i 0 * 256 ^ i * leN ys 32) : leN ss 63 = leN xs (i + 1) * y := by
  rw [h, hy, leN_succ, Int.add_mul]
theorem cb_zero : CB 0 (List.replicate 63 (0 : Int)) := ⟨by simp, fun e he => by rw [List.eq_of_mem_replicate he]; decide⟩
theorem Dg.cong {zs : List Int} {z s t : Int} (h : Dg zs (z % P)) (hm : z % P = s % P) (e : s = t) : Dg zs (t % P) := by rw [← e, ← hm]; exact h
def fromV (bs : List Int) : Int := leN bs 32 % 57896044618658097711785492504343953926634992332820282019728792003956564819968
theorem ext_getD {xs ys : List Int} (hl : xs.length = ys.length) (h : ∀ i, i < xs.length → xs.getD i 0 = ys.getD i 0) : xs = ys := by
  apply List.ext_getElem hl
  intro i h1 h2
  have e := h i h1
  rw [List.getD_eq_getElem?_getD, List.getElem?_eq_getElem h1, List.getD_eq_getElem?_getD, List.getElem?_eq_getElem h2] at e
  exact e
theorem from_all {bs os : List Int} {n : Nat} (hn : n ≤ 32) (h : bs.length ≤ n ∨ n = 32) (ho : os = mapP (fun i => bs.getD i 0) (List.replicate 32 0) n) : os = mapP (fun i => bs.getD i 0) (List.replicate 32 0) 32 := by
  rcases h with h | h
  · rw [ho]
    refine ext_getD (by rw [mapP_len _ _ _ (by simp; omega), mapP_len _ _ _ (by simp)]) (fun i hi => ?_)
    rw [mapP_len _ _ _ (by simp; omega), List.length_replicate] at hi
    rw [mapP_get (n := 32) hi]
    rcases Nat.lt_or_ge i n with h3 | h3
    · rw [mapP_get h3]
    · rw [mapP_tail h3 (by simp; omega), getD_ge bs i (by omega), List.getD_eq_getElem?_getD, List.getElem?_replicate]
      split <;> rfl
  · rw [ho, h]
theorem from_dg {bs os : List Int} (hb : In .u8 bs) (ho : os = mapP (fun i => bs.getD i 0) (List.replicate 32 0) 32) : Dg (os.set 31 (os.getD 31 0 % 128)) (fromV bs) := by
  have hl : os.length = 32 := by rw [ho, mapP_len _ _ _ (by simp)]; simp
  have hd : ∀ i, i < 32 → os.getD i 0 = bs.getD i 0 := fun i hi => by rw [ho, mapP_get hi]
  have hin : In .u8 os := fun z hz => by
    obtain ⟨i, hi, rfl⟩ := List.mem_iff_getElem.1 hz
    have e := hd i (by omega)
    rw [List.getD_eq_getElem?_getD, List.getElem?_eq_getElem hi] at e
    simp only [Option.getD_some] at e
    rw [e]
    exact hb.at_ i
  have h31 : 0 ≤ os.getD 31 0 ∧ os.getD 31 0 < 256 := hin.at_ 31
  refine Dg.of (by rw [List.length_set, hl]) (hin.set _ (by simp only [fits]; omega)) ?_
  rw [leN_set _ (by decide) (by omega), fromV, ← leN_same (xs := os) (fun i hi => hd i hi)]
  have e := leN_succ os 31
  have b := leN_bd hin 31
  rw [show (256 : Int) ^ 31 = 452312848583266388373324160190187140051835877600158453279131187530910662656 by decide] at *
  rw [show (31 + 1 : Nat) = 32 from rfl] at e
  rw [e]
  generalize leN os 31 = q at *
  generalize os.getD 31 0 = d at *
  omega
theorem bytes_step {xs : List Int} {x : Int} (hx : Dg xs x) {n : Nat} (hn : n < 32) : xs.take n ++ [IntKind.wrap .u8 (xs.getD n 0)] = xs.take (n + 1) := by
  have := hx.at n
  rw [wrap_u8 _ this.1 this.2, take_snoc _ _ (by rw [hx.len]; exact hn)]
end Go.Proofs.Ytaaplakahkgclaa.SL.N
