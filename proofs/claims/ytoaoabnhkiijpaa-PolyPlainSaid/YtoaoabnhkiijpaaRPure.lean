/- Poly1305's reference: plain laws. -/
import Derived.Test.YtoaoabnhkiijpaaPPure
namespace Go.Proofs.Ytoaoabnhkiijpaa.SL.Y
set_option linter.unusedVariables false
set_option linter.unusedSimpArgs false
open Go Go.Proofs.Ytoaoabnhkiijpaa.SL Go.Proofs.Ytoaoabnhkiijpaa.SL.W
open Go.Proofs.Ytoaoabnhkiijpaa.SL.F (mapP mapP_len mapP_at mapP_step set_at)
open Go.Proofs.Ytoaoabnhkiijpaa.SL.N (leN_split leN_succ leN_set leN_same leN_eq sumN mapP_get mapP_tail leB_leN leN_ge leN_nil ext_getD cf df gs cf_sum cf_bd mul_sign drop_step)
theorem getD_out (xs : List Int) (n : Nat) : n < xs.length ∨ xs.getD n 0 = 0 := by
  by_cases h : n < xs.length
  · exact .inl h
  · exact .inr (by simp [List.getD_eq_getElem?_getD, List.getElem?_eq_none (by omega : xs.length ≤ n)])
/-! ### Sums -/
theorem add_step {xs ys os : List Int} {c v : Int} {n m : Nat} (ho : os = mapP (df (gs xs ys)) (List.replicate m 0) n) (hc : c = cf (gs xs ys) n) (hn : n < m) (hv : v = c + xs.getD n 0 + ys.getD n 0) :
    os.set n (v % 256) = mapP (df (gs xs ys)) (List.replicate m 0) (n + 1) ∧ v / 256 = cf (gs xs ys) (n + 1) := by
  have e : v = gs xs ys n + cf (gs xs ys) n := by rw [gs, ← hc]; omega
  exact ⟨by rw [ho, e]; exact mapP_step (df (gs xs ys)) _ _ (by simp; exact hn), by rw [e, cf]⟩
theorem gs_sum (xs ys : List Int) : ∀ n, sumN (gs xs ys) n = leN xs n + leN ys n
  | 0 => rfl
  | n + 1 => by rw [sumN, gs_sum xs ys n, leN_succ, leN_succ, gs, Int.add_mul]; omega
theorem cfs_bd {xs ys : List Int} (hx : In .u8 xs) (hy : In .u8 ys) (n : Nat) : 0 ≤ cf (gs xs ys) n ∧ cf (gs xs ys) n ≤ 2 :=
  cf_bd (B := 510) (fun i => by
    have h1 : 0 ≤ xs.getD i 0 ∧ xs.getD i 0 < 256 := hx.at_ i
    have h2 : 0 ≤ ys.getD i 0 ∧ ys.getD i 0 < 256 := hy.at_ i
    rw [gs]; omega) (by decide) (by decide) n
theorem mapP_in (g : Nat → Int) (h : ∀ i, 0 ≤ g i ∧ g i < 256) (m : Nat) : In .u8 (mapP g (List.replicate m 0) m) := fun z hz => by
  rw [mapP, List.mem_append] at hz
  rcases hz with hz | hz
  · obtain ⟨i, _, rfl⟩ := List.mem_map.1 hz; exact h i
  · rw [List.drop_of_length_le (by simp)] at hz; simp at hz
theorem add_end {xs ys zs : List Int} {m : Nat} (h : zs = mapP (df (gs xs ys)) (List.replicate m 0) m) : In .u8 zs ∧ leN zs m = (leN xs m + leN ys m) % 256 ^ m := by
  have hi : In .u8 zs := by rw [h]; exact mapP_in _ (fun i => by rw [df]; omega) m
  refine ⟨hi, ?_⟩
  have e : leN zs m = sumN (df (gs xs ys)) m := leN_eq (fun i hm => by rw [h, mapP_get hm])
  have hs := cf_sum (gs xs ys) m
  have hb := leN_bd hi m
  rw [gs_sum] at hs
  rw [← hs, ← e, Int.add_mul_emod_self_left]
  exact (Int.emod_eq_of_lt hb.1 hb.2).symm
/-! ### Products -/
theorem mul8 {a b : Int} (ha : 0 ≤ a ∧ a < 256) (hb : 0 ≤ b ∧ b < 256) : 0 ≤ a * b ∧ a * b ≤ 65025 :=
  ⟨Int.mul_nonneg ha.1 hb.1, Int.le_trans (Int.mul_le_mul_of_nonneg_left (show b ≤ 255 by omega) ha.1) (by omega)⟩
theorem times_step {xs ys us : List Int} {c v X : Int} {n k : Nat} (hl : us.length = 36) (hn : n + k < 36) (h : leN us 36 + c * 256 ^ (n + k) = X + xs.getD n 0 * 256 ^ n * leN ys k) (hv : v = us.getD (n + k) 0 + c + xs.getD n 0 * ys.getD k 0) :
    leN (us.set (n + k) (v % 256)) 36 + v / 256 * 256 ^ (n + (k + 1)) = X + xs.getD n 0 * 256 ^ n * leN ys (k + 1) := by
  rw [leN_set _ hn (by omega), leN_succ ys k, ← Nat.add_assoc, Int.pow_succ]
  have e : v % 256 = v - 256 * (v / 256) := by omega
  rw [e]
  rw [Int.pow_add] at *
  generalize v / 256 = w at *
  generalize leN us 36 = U at *
  generalize us.getD (n + k) 0 = u at *
  generalize (256 : Int) ^ n = p at *
  generalize (256 : Int) ^ k = q at *
  subst hv
  grind
theorem leN_len1 (ys : List Int) : leN ys (ys.length + 1) = leN ys ys.length := leN_ge (Nat.le_refl _) 1
theorem times_carry {xs ys us : List Int} {c : Int} {n k : Nat} (hx : In .u8 xs) (hy : In .u8 ys) (hu : In .u8 us) (hk : k = ys.length + 1) (h : leN us 36 + c * 256 ^ (n + k) = leN xs n * leN ys ys.length + xs.getD n 0 * 256 ^ n * leN ys k) (hc : 0 ≤ c) : c = 0 := by
  rw [hk, leN_len1, ← Int.add_mul, ← leN_succ] at h
  have h1 := leN_bd hx (n + 1)
  have h2 := leN_bd hy ys.length
  have h3 := (leN_bd hu 36).1
  rw [show n + (ys.length + 1) = n + 1 + ys.length by omega, Int.pow_add] at h
  have h4 := Int.mul_le_mul_of_nonneg_left (Int.le_of_lt h2.2) h1.1
  have hp : (0 : Int) < 256 ^ ys.length := Int.pow_pos (by decide)
  have h5 := Int.mul_lt_mul_of_pos_right h1.2 hp
  have hq : (0 : Int) < 256 ^ (n + 1) * 256 ^ ys.length := Int.mul_pos (Int.pow_pos (by decide)) hp
  by_cases h0 : 0 < c
  · have h6 := Int.mul_le_mul_of_nonneg_right (show (1 : Int) ≤ c by omega) (Int.le_of_lt hq)
    omega
  · omega
theorem times_kc {xs ys us : List Int} {c v i k : Int} (hx : In .u8 xs) (hy : In .u8 ys) (hu : In .u8 us) (hl : us.length = 36) (hi : 0 ≤ i) (hk : 0 ≤ k) (hn : i + k < 36) (hkl : k ≤ (ys.length : Int)) (hc : 0 ≤ c) (h : leN us 36 + c * 256 ^ (i.toNat + k.toNat) = leN xs i.toNat * leN ys ys.length + xs.getD i.toNat 0 * 256 ^ i.toNat * leN ys k.toNat)
    (hv : v = us.getD (i + k).toNat 0 + c + xs.getD i.toNat 0 * ys.getD k.toNat 0) : k + 1 ≤ (ys.length : Int) ∨ v / 256 = 0 := by
  by_cases hh : k + 1 ≤ (ys.length : Int)
  · exact .inl hh
  · refine .inr ?_
    rw [show (i + k).toNat = i.toNat + k.toNat by omega] at hv
    have h1 := times_step hl (by omega) h hv
    have a1 : 0 ≤ us.getD (i.toNat + k.toNat) 0 ∧ us.getD (i.toNat + k.toNat) 0 < 256 := hu.at_ _
    have a2 := mul8 (hx.at_ i.toNat) (hy.at_ k.toNat)
    exact times_carry hx hy (hu.set (i.toNat + k.toNat) (v := v % 256) (by simp only [fits]; omega)) (by omega) h1 (by omega)
theorem times_row {xs ys us : List Int} {c : Int} {n k : Nat} (h : leN us 36 + c * 256 ^ (n + k) = leN xs n * leN ys ys.length + xs.getD n 0 * 256 ^ n * leN ys k) (hk : ys.length ≤ k) (hk2 : k ≤ ys.length + 1) (hc : c = 0) : leN us 36 = leN xs (n + 1) * leN ys ys.length := by
  have e : leN ys k = leN ys ys.length := by
    rcases (show k = ys.length ∨ k = ys.length + 1 by omega) with h | h
    · rw [h]
    · rw [h, leN_len1]
  rw [hc, Int.zero_mul, Int.add_zero, e, ← Int.add_mul, ← leN_succ] at h
  exact h
/-! ### Comparing -/
theorem less17 {xs ys : List Int} {n : Nat} (hx : In .u8 xs) (hy : In .u8 ys) (hn : n < 17) (h : xs.drop (n + 1) = ys.drop (n + 1)) (hne : xs.getD n 0 ≠ ys.getD n 0) : decide (xs.getD n 0 < ys.getD n 0) = decide (leN xs 17 < leN ys 17) := by
  have h1 := leN_split xs (n + 1) (16 - n)
  have h2 := leN_split ys (n + 1) (16 - n)
  rw [show n + 1 + (16 - n) = 17 by omega, leN_succ _ n] at h1 h2
  rw [← h] at h2
  have b1 := leN_bd hx n
  have b2 := leN_bd hy n
  have hp : (0 : Int) < 256 ^ n := Int.pow_pos (by decide)
  have hs := mul_sign (d := xs.getD n 0 - ys.getD n 0) (e := leN xs n - leN ys n) hp (by omega) (by omega)
  have e : leN xs 17 - leN ys 17 = (xs.getD n 0 - ys.getD n 0) * 256 ^ n + (leN xs n - leN ys n) := by
    rw [h1, h2, Int.sub_mul]
    omega
  refine decide_eq_decide.2 ⟨fun hl => ?_, fun hl => ?_⟩
  · have := hs.2 (by omega); omega
  · rcases Int.lt_or_gt_of_ne hne with h3 | h3
    · exact h3
    · have := hs.1 (by omega); omega
theorem less17_end {xs ys : List Int} (h : xs.drop 0 = ys.drop 0) : false = decide (leN xs 17 < leN ys 17) := by
  rw [List.drop_zero, List.drop_zero] at h
  rw [h]
  exact (decide_eq_false (by omega)).symm
def primeD : List Int := [251, 255, 255, 255, 255, 255, 255, 255, 255, 255, 255, 255, 255, 255, 255, 255, 3]
theorem primeD_val : leN primeD 17 = Q := by decide +kernel
theorem primeD_in : In .u8 primeD := by intro z hz; simp only [primeD, List.mem_cons, List.not_mem_nil, or_false] at hz; simp only [fits]; omega
theorem primeD_end {os : List Int} (h : os = mapP (fun _ => 255) (List.replicate 17 0) 16) : (os.set 0 251).set 16 3 = primeD := by rw [h]; decide +kernel
/-! ### Rests -/
def hiD (ws : List Int) (n : Nat) : Int := ws.getD (16 + n) 0 / 4 + ws.getD (17 + n) 0 % 4 * 64
theorem hi_step {ws hs : List Int} {n : Nat} {d e : Int} (h : hs = mapP (hiD ws) (List.replicate 20 0) n) (hn : n < 20) (hd : d = ws.getD (16 + n) 0 / 4) (he : e = ws.getD (17 + n) 0) :
    (hs.set n d).set n ((hs.set n d).getD n 0 + e % 4 * 64) = mapP (hiD ws) (List.replicate 20 0) (n + 1) := by
  have hl : hs.length = 20 := by rw [h, mapP_len _ _ _ (by simp; omega)]; rfl
  rw [List.set_set, set_at (by omega), hd, he, h]
  exact mapP_step (hiD ws) _ _ (by simp; exact hn)
theorem hi_last {ws hs : List Int} {n : Nat} {d : Int} (h : hs = mapP (hiD ws) (List.replicate 20 0) n) (hn : n < 20) (hd : d = ws.getD (16 + n) 0 / 4) (he : ws.getD (17 + n) 0 = 0) :
    hs.set n d = mapP (hiD ws) (List.replicate 20 0) (n + 1) := by
  have hs2 := hi_step h hn hd he.symm
  have hl : hs.length = 20 := by rw [h, mapP_len _ _ _ (by simp; omega)]; rfl
  rw [List.set_set, set_at (by omega)] at hs2
  rw [← hs2]
  congr 1
  omega
theorem hi_in {ws hs : List Int} {n : Nat} (hw : In .u8 ws) (h : hs = mapP (hiD ws) (List.replicate 20 0) n) : In .u8 hs := fun z hz => by
  rw [h, mapP, List.mem_append] at hz
  rcases hz with hz | hz
  · obtain ⟨i, _, rfl⟩ := List.mem_map.1 hz
    have q1 : 0 ≤ ws.getD (16 + i) 0 ∧ ws.getD (16 + i) 0 < 256 := hw.at_ _
    simp only [fits]
    rw [hiD]; omega
  · rw [List.eq_of_mem_replicate (List.mem_of_mem_drop hz)]; simp only [fits]; omega
def rb : Nat → Int
  | 0 => 118571099379011784113736688648896417641748464297615937576404566024103044751294464
  | 1 => 696898287454081973172991196020261297061888
  | 2 => 1361129467683753853853498429727072848384
  | _ => 1361129467683753853853498429727072845824
/-- After n rounds. -/
def RI (n : Nat) (z x : Int) : Prop := z % Q = x % Q ∧ z < rb n
theorem hi_val {ws : List Int} (hw : In .u8 ws) (hl : ws.length = 36) : ∀ n, 4 * sumN (hiD ws) n + ws.getD 16 0 % 4 = leN (ws.drop 16) n + ws.getD (16 + n) 0 % 4 * 256 ^ n
  | 0 => by simp [sumN, leN]
  | n + 1 => by
    have h := hi_val hw hl n
    have e : (ws.drop 16).getD n 0 = ws.getD (16 + n) 0 := by simp [List.getD_eq_getElem?_getD, List.getElem?_drop]
    rw [sumN, leN_succ, e, Int.pow_succ, hiD, show 17 + n = 16 + (n + 1) by omega]
    have e2 : 4 * (ws.getD (16 + n) 0 / 4) = ws.getD (16 + n) 0 - ws.getD (16 + n) 0 % 4 := by omega
    grind
theorem hi_all {ws hs : List Int} (hw : In .u8 ws) (hl : ws.length = 36) (h : hs = mapP (hiD ws) (List.replicate 20 0) 20) :
    leN ws 36 = (leN ws 16 + 340282366920938463463374607431768211456 * (ws.getD 16 0 % 4)) + 1361129467683753853853498429727072845824 * leN hs 20 ∧ In .u8 hs := by
  have e : leN hs 20 = sumN (hiD ws) 20 := leN_eq (fun i hi => by rw [h, mapP_get hi])
  have h1 := hi_val hw hl 20
  have h2 := leN_split ws 16 20
  have h3 : ws.getD (16 + 20) 0 = 0 := by rcases getD_out ws (16 + 20) with h | h <;> omega
  rw [h3] at h1
  rw [show (256 : Int) ^ 16 = 340282366920938463463374607431768211456 by decide, show 16 + 20 = 36 from rfl] at h2
  refine ⟨by rw [e]; omega, ?_⟩
  rw [h]
  refine mapP_in _ (fun i => ?_) 20
  have q1 : 0 ≤ ws.getD (16 + i) 0 ∧ ws.getD (16 + i) 0 < 256 := hw.at_ _
  rw [hiD]; omega
theorem snoc_val {as : List Int} {n : Nat} {d : Int} (h : as.length = n) : leN (as ++ [d]) (n + 1) = leN as n + 256 ^ n * d := by
  have e := leN_split (as ++ [d]) n 1
  rw [e, ← h, List.drop_left]
  congr 1
  · exact leN_same (fun i hi => by simp [List.getD_eq_getElem?_getD, List.getElem?_append_left hi])
  · simp [leN]
theorem take_val {as : List Int} {n m : Nat} (h : n ≤ m) : leN (as.take m) n = leN as n := leN_same (fun i hi => by simp [List.getD_eq_getElem?_getD, List.getElem?_take, show i < m by omega])
theorem low_val {ws : List Int} {d : Int} (hl : ws.length = 36) : leN (ws.take 16 ++ [d]) 36 = leN ws 16 + 340282366920938463463374607431768211456 * d := by
  have h16 : (ws.take 16).length = 16 := by simp; omega
  have e := leN_ge (as := ws.take 16 ++ [d]) (n := 17) (by rw [List.length_append, h16]; simp) 19
  have e2 := snoc_val (d := d) h16
  rw [take_val (Nat.le_refl 16), show (256 : Int) ^ 16 = 340282366920938463463374607431768211456 by decide] at e2
  exact e.trans e2
/-- The rows' own lengths. -/
theorem prod5 {hs ts : List Int} (hl : hs.length = 20) (h : leN ts 36 = leN (hs.take 17) (hs.take 17).length * leN [5] ([5] : List Int).length) : leN ts 36 = leN hs 17 * 5 := by
  have e : (hs.take 17).length = 17 := by simp; omega
  rw [e, take_val (Nat.le_refl 17)] at h
  rw [h]; rfl
theorem rest_round {ws hs ts us low : List Int} {x d : Int} {n : Nat} (hn : n < 4) (hw : In .u8 ws) (hl : ws.length = 36) (hR : RI n (leN ws 36) x) (hh : hs = mapP (hiD ws) (List.replicate 20 0) 20) (ht : leN ts 36 = leN hs 17 * 5) (hti : In .u8 ts) (hlow : low = ws.take 16 ++ [d]) (hd : d = ws.getD 16 0 % 4)
    (hu : leN us 36 = (leN low 36 + leN (ts.take 20) 36) % 256 ^ 36) : RI (n + 1) (leN us 36) x := by
  obtain ⟨ha, hi⟩ := hi_all hw hl hh
  have b16 := leN_bd hw 16
  have b17 := leN_bd hi 17
  have bh := leN_bd hi 20
  have hsp := leN_split hs 17 3
  have b3 := leN_bd (hi.drop 17) 3
  have t20 := leN_bd (hti.take 20) 20
  have e20 := leN_ge (as := ts.take 20) (n := 20) (by simp; omega) 16
  have e36 := leN_split ts 20 16
  have t16 := leN_bd (hti.drop 20) 16
  rw [take_val (Nat.le_refl 20)] at t20 e20
  simp only [show 20 + 16 = 36 from rfl, show 17 + 3 = 20 from rfl] at e20 e36 hsp
  rw [hlow, hd, low_val hl, e20] at hu
  simp only [show (256 : Int) ^ 16 = 340282366920938463463374607431768211456 by decide, show (256 : Int) ^ 17 = 87112285931760246646623899502532662132736 by decide, show (256 : Int) ^ 20 = 1461501637330902918203684832716283019655932542976 by decide, show (256 : Int) ^ 36 = 497323236409786642155382248146820840100456150797347717440463976893159497012533375533056 by decide, show (256 : Int) ^ 3 = 16777216 by decide] at *
  obtain ⟨hm, hb⟩ := hR
  have bd : leN ws 36 < 118571099379011784113736688648896417641748464297615937576404566024103044751294464 := by
    rcases (show n = 0 ∨ n = 1 ∨ n = 2 ∨ n = 3 by omega) with rfl | rfl | rfl | rfl <;> simp only [rb] at hb <;> omega
  have h17 : leN hs 20 = leN hs 17 := by omega
  have h5 : leN ts 20 = leN hs 17 * 5 := by omega
  have hu2 : leN us 36 = leN ws 16 + 340282366920938463463374607431768211456 * (ws.getD 16 0 % 4) + leN hs 17 * 5 := by omega
  refine ⟨?_, ?_⟩
  · rw [← hm, hu2, ha, h17]
    rw [show leN ws 16 + 340282366920938463463374607431768211456 * (ws.getD 16 0 % 4) + 1361129467683753853853498429727072845824 * leN hs 17 = leN ws 16 + 340282366920938463463374607431768211456 * (ws.getD 16 0 % 4) + leN hs 17 * 5 + Q * leN hs 17 by simp only [Q]; omega, Int.add_mul_emod_self_left]
  · rcases (show n = 0 ∨ n = 1 ∨ n = 2 ∨ n = 3 by omega) with rfl | rfl | rfl | rfl <;> simp only [rb] at hb ⊢ <;> omega
theorem rest_start {ws : List Int} (h : leN ws 36 < 118571099379011784113736688648896417641748464297615937576404566024103044751294464) : RI 0 (leN ws 36) (leN ws 36) := ⟨rfl, h⟩
theorem rest_low {ws : List Int} {x : Int} (hw : In .u8 ws) (hl : ws.length = 36) (hR : RI 4 (leN ws 36) x) : leN (ws.take 17) 17 = leN ws 36 ∧ leN ws 36 < 1361129467683753853853498429727072845824 ∧ leN ws 36 % Q = x % Q ∧ 0 ≤ leN ws 36 := by
  obtain ⟨hm, hb⟩ := hR
  have e := leN_split ws 17 19
  have h1 := leN_bd hw 17
  have h2 := leN_bd (hw.drop 17) 19
  simp only [rb] at hb
  rw [show (256 : Int) ^ 17 = 87112285931760246646623899502532662132736 by decide, show 17 + 19 = 36 from rfl] at *
  rw [take_val (Nat.le_refl 17)]
  refine ⟨by omega, hb, hm, by omega⟩
theorem rest_a {ws : List Int} {x : Int} (hw : In .u8 ws) (hl : ws.length = 36) (hR : RI 4 (leN ws 36) x) (hlt : leN (ws.take 17) 17 < leN primeD 17) : leN (ws.take 17) 17 = x % Q := by
  obtain ⟨h1, h2, h3, h4⟩ := rest_low hw hl hR
  rw [primeD_val] at hlt
  rw [h1] at hlt ⊢
  rw [← h3]
  exact (Int.emod_eq_of_lt h4 hlt).symm
theorem rest_b {ws zs : List Int} {x : Int} (hw : In .u8 ws) (hl : ws.length = 36) (hR : RI 4 (leN ws 36) x) (hge : ¬ leN (ws.take 17) 17 < leN primeD 17) (hz : leN zs 17 = (leN (ws.take 17) 17 + leN [5] 17) % 256 ^ 17) (hzi : In .u8 zs) (hzl : zs.length = 17) : leN (zs.set 16 (zs.getD 16 0 % 4)) 17 = x % Q := by
  obtain ⟨h1, h2, h3, h4⟩ := rest_low hw hl hR
  rw [primeD_val] at hge
  rw [h1] at hge hz
  rw [leN_set _ (by decide) (by omega)]
  rw [show leN [5] 17 = 5 by decide +kernel] at hz
  have e : leN zs 17 = leN zs 16 + zs.getD 16 0 * 256 ^ 16 := leN_succ zs 16
  have hb := leN_bd hzi 16
  have h8 : 0 ≤ zs.getD 16 0 ∧ zs.getD 16 0 < 256 := hzi.at_ 16
  rw [show (256 : Int) ^ 16 = 340282366920938463463374607431768211456 by decide] at *
  rw [show (256 : Int) ^ 17 = 87112285931760246646623899502532662132736 by decide] at *
  have hq : x % Q = leN ws 36 - Q := by
    rw [← h3]
    have e5 := Int.emod_eq_of_lt (a := leN ws 36 - Q) (b := Q) (by omega) (by simp only [Q] at *; omega)
    rw [← e5, Int.sub_emod, Int.emod_self, Int.sub_zero, Int.emod_emod]
  rw [hq]
  simp only [Q] at *
  omega
/-! ### The tag -/
theorem take_snoc {rs as : List Int} {n : Nat} (h : rs = as.take n) (hn : n < as.length) : rs ++ [as.getD n 0] = as.take (n + 1) := by
  rw [h, List.take_add_one, List.getD_eq_getElem?_getD, List.getElem?_eq_getElem hn]
  rfl
theorem clamp_v {xs : List Int} (hx : In .u8 xs) {i v : Int} (h0 : 0 ≤ i) (h1 : i < 16) (hv : (i % 4 = 3 ∧ v = xs.getD i.toNat 0 % 16) ∨ (i % 4 ≠ 3 ∧ 0 < i ∧ i % 4 = 0 ∧ v = xs.getD i.toNat 0 / 4 * 4) ∨ (i % 4 ≠ 3 ∧ ¬ (0 < i ∧ i % 4 = 0) ∧ v = xs.getD i.toNat 0)) : v = (clamp xs).getD i.toNat 0 := by
  rw [clamp_at hx (by omega)]
  split
  · omega
  · split <;> omega
theorem clamp_snoc {xs rs : List Int} (hx : In .u8 xs) {i v : Int} (h0 : 0 ≤ i) (h1 : i < 16) (h : rs = (clamp xs).take i.toNat) (hv : (i % 4 = 3 ∧ v = xs.getD i.toNat 0 % 16) ∨ (i % 4 ≠ 3 ∧ 0 < i ∧ i % 4 = 0 ∧ v = xs.getD i.toNat 0 / 4 * 4) ∨ (i % 4 ≠ 3 ∧ ¬ (0 < i ∧ i % 4 = 0) ∧ v = xs.getD i.toNat 0)) : rs ++ [v] = (clamp xs).take (i + 1).toNat := by
  rw [clamp_v hx h0 h1 hv, show (i + 1).toNat = i.toNat + 1 by omega]
  exact take_snoc h (by rw [clamp_len]; omega)
theorem half_snoc {xs ss : List Int} {i : Int} (hl : xs.length = 32) (h0 : 0 ≤ i) (h1 : i < 16) (h : ss = (xs.drop 16).take i.toNat) : ss ++ [xs.getD (16 + i).toNat 0] = (xs.drop 16).take (i + 1).toNat := by
  have e : xs.getD (16 + i).toNat 0 = (xs.drop 16).getD i.toNat 0 := by
    simp only [List.getD_eq_getElem?_getD, List.getElem?_drop]
    rw [show (16 + i).toNat = 16 + i.toNat by omega]
  rw [e, show (i + 1).toNat = i.toNat + 1 by omega]
  exact take_snoc h (by rw [List.length_drop]; omega)
theorem blk_snoc {ys bs : List Int} {a i : Int} (h0 : 0 ≤ a) (h1 : a ≤ i) (h2 : i < (ys.length : Int)) (h : bs = (ys.drop a.toNat).take (i - a).toNat) : bs ++ [ys.getD i.toNat 0] = (ys.drop a.toNat).take (i + 1 - a).toNat := by
  have e : ys.getD i.toNat 0 = (ys.drop a.toNat).getD (i - a).toNat 0 := by
    simp only [List.getD_eq_getElem?_getD, List.getElem?_drop]
    rw [show a.toNat + (i - a).toNat = i.toNat by omega]
  rw [e, show (i + 1 - a).toNat = (i - a).toNat + 1 by omega]
  exact take_snoc h (by rw [List.length_drop]; omega)
theorem blk_end {ys bs : List Int} {a i : Int} {q : Nat} (ha : a = 16 * (q : Int)) (h1 : a ≤ i) (h2 : i ≤ a + 16) (h3 : i ≤ (ys.length : Int)) (he : i = a + 16 ∨ i = (ys.length : Int)) (h : bs = (ys.drop a.toNat).take (i - a).toNat) : bs = chunk 16 ys q := by
  rw [h, chunk, show a.toNat = 16 * q by omega]
  apply List.take_eq_take_iff.2
  rw [List.length_drop]
  omega
theorem tag_prod {os bs us ts rs xs : List Int} {a : Int} (hoi : In .u8 os) (hol : os.length = 17) (hov : leN os 17 = a) (ha : 0 ≤ a ∧ a < Q) (hb : In .u8 bs) (hbl : bs.length ≤ 16) (hx : In .u8 xs) (hr : rs = clamp xs) (hul : us.length = 18)
    (hu : leN us 18 = (leN os 18 + leN (bs ++ [1]) 18) % 256 ^ 18) (ht : leN ts 36 = leN us us.length * leN rs rs.length) : leN ts 36 = (a + blkN bs) * rOf xs ∧ leN ts 36 < 118571099379011784113736688648896417641748464297615937576404566024103044751294464 := by
  have e1 : leN os 18 = a := (leN_ge (as := os) (n := 17) (by omega) 1).trans hov
  have e2 : leN (bs ++ [1]) 18 = blkN bs := (leN_ge (as := bs ++ [1]) (n := 17) (by simp; omega) 1).trans (blk_17 hbl)
  have hk := blk_bd hb hbl
  have hr2 := rOf_bd hx
  rw [e1, e2, show (256 : Int) ^ 18 = 22300745198530623141535718272648361505980416 by decide] at hu
  have e3 : leN us 18 = a + blkN bs := by simp only [Q] at ha; omega
  rw [hul, e3, hr, clamp_len, show leN (clamp xs) 16 = rOf xs from rfl] at ht
  refine ⟨ht, ?_⟩
  rw [ht]
  have h1 := Int.mul_le_mul_of_nonneg_left (show rOf xs ≤ 340282366920938463463374607431768211456 by omega) (show 0 ≤ a + blkN bs by omega)
  simp only [Q] at ha
  omega
theorem byte_step {ts : List Int} (ht : In .u8 ts) {n : Nat} (hn : n < ts.length) : ts.take n ++ [IntKind.wrap .u8 (ts.getD n 0)] = ts.take (n + 1) := by
  have h : 0 ≤ ts.getD n 0 ∧ ts.getD n 0 < 256 := ht.at_ n
  rw [show IntKind.wrap .u8 (ts.getD n 0) = ts.getD n 0 by show ts.getD n 0 % 256 = _; omega]
  exact take_snoc rfl hn
theorem tag_end {xs ys os ss ts fs : List Int} {q : Nat} (hl : xs.length = 32) (hoi : In .u8 os) (hov : leN os 17 = acc (rOf xs) ys q) (hq : q = (ys.length + 15) / 16) (hs : ss = xs.drop 16) (hti : In .u8 ts) (htl : ts.length = 16) (ht : leN ts 16 = (leN os 16 + leN ss 16) % 256 ^ 16) (hf : fs = ts.take 16) : fs = tagL xs ys := by
  have e := leN_succ os 16
  rw [hov] at e
  have e1 : leN ts 16 = (acc (rOf xs) ys q + leN (xs.drop 16) 16) % 256 ^ 16 := by
    rw [ht, hs, e, show leN os 16 + os.getD 16 0 * 256 ^ 16 + leN (xs.drop 16) 16 = (leN os 16 + leN (xs.drop 16) 16) + os.getD 16 0 * 256 ^ 16 by omega, Int.add_mul_emod_self_right]
  rw [hf, List.take_of_length_le (by omega), ← leB_leN 16 ts htl hti, e1, leB_mod, tagL, if_pos hl, hq]
/-! ### The laws -/
def keyL : List Int := [133, 214, 190, 120, 87, 85, 109, 51, 127, 68, 82, 254, 66, 213, 6, 168, 1, 3, 128, 138, 251, 13, 178, 253, 74, 191, 246, 175, 65, 73, 245, 27]
theorem tagL_len {xs m : List Int} (h : xs.length = 32) : (tagL xs m).length = 16 := by rw [tagL, if_pos h, leB_len]
theorem tagL_le (xs m : List Int) : (tagL xs m).length ≤ 140737488351232 := by
  rw [tagL]; split
  · rw [leB_len]; decide
  · decide
theorem tag_nil {xs : List Int} (hx : In .u8 xs) (h : xs.length = 32) : tagL xs [] = xs.drop 16 := by
  rw [tagL, if_pos h]
  show leB (0 + leN (xs.drop 16) 16) 16 = _
  rw [Int.zero_add]
  exact leB_leN 16 _ (by rw [List.length_drop]; omega) (hx.drop 16)
theorem acc_zero (m : List Int) : ∀ j, acc 0 m j = 0
  | 0 => rfl
  | j + 1 => by rw [acc, Int.mul_zero]; rfl
theorem tag_zero {xs m : List Int} (hx : In .u8 xs) (h : xs.length = 32) (hr : rOf xs = 0) : tagL xs m = xs.drop 16 := by
  rw [tagL, if_pos h, hr, acc_zero, Int.zero_add]
  exact leB_leN 16 _ (by rw [List.length_drop]; omega) (hx.drop 16)
theorem tag_same {xs ys m : List Int} (hl : xs.length = ys.length) (hc : clamp xs = clamp ys) (hd : xs.drop 16 = ys.drop 16) : tagL xs m = tagL ys m := by
  rw [tagL, tagL, hl, rOf, rOf, hc, hd]
end Go.Proofs.Ytoaoabnhkiijpaa.SL.Y
