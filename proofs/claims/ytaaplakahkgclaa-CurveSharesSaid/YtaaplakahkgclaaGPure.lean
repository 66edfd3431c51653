/- Fermat's theorem for 2^255 - 19, by Lucas' converse and a chain of primes. -/
namespace Go.Proofs.Ytaaplakahkgclaa.SL.G
set_option linter.unusedVariables false
def Pr (n : Nat) : Prop := 1 < n ∧ ∀ d, d ∣ n → d = 1 ∨ d = n
def Fer (n : Nat) : Prop := ∀ v, 0 < v → v < n → v ^ (n - 1) % n = 1
def pm (n : Nat) : Nat → Nat → Nat → Nat
  | 0, _, _ => 1 % n
  | f + 1, a, e => if e = 0 then 1 % n else if e % 2 = 1 then a * pm n f (a * a % n) (e / 2) % n else pm n f (a * a % n) (e / 2)
theorem pm_is (n : Nat) : ∀ f a e, e < 2 ^ f → pm n f a e = a ^ e % n
  | 0, a, e, h => by
    have : e = 0 := by simpa using h
    rw [this]; rfl
  | f + 1, a, e, h => by
    rw [pm]
    by_cases h0 : e = 0
    · rw [if_pos h0, h0]; rfl
    · rw [if_neg h0]
      have ih := pm_is n f (a * a % n) (e / 2) (by rw [Nat.pow_succ] at h; omega)
      rw [← Nat.pow_mod] at ih
      have e2 : (a * a) ^ (e / 2) = a ^ (2 * (e / 2)) := by rw [Nat.pow_mul, Nat.pow_two]
      rw [e2] at ih
      rw [ih]
      by_cases h1 : e % 2 = 1
      · rw [if_pos h1, Nat.mul_mod_mod, Nat.mul_comm, ← Nat.pow_succ, show (2 * (e / 2)).succ = e by omega]
      · rw [if_neg h1, show 2 * (e / 2) = e by omega]
theorem least {p : Nat → Prop} : ∀ n, p n → ∃ m, m ≤ n ∧ p m ∧ ∀ j, j < m → ¬ p j := by
  intro n
  induction n using Nat.strongRecOn with
  | ind n ih =>
    intro h
    by_cases hh : ∃ j, j < n ∧ p j
    · obtain ⟨j, hj, hp⟩ := hh
      obtain ⟨m, hm, h1, h2⟩ := ih j hj hp
      exact ⟨m, by omega, h1, h2⟩
    · exact ⟨n, Nat.le_refl _, h, fun j hj hp => hh ⟨j, hj, hp⟩⟩
theorem pigeon : ∀ (n : Nat) (f : Nat → Nat), (∀ i, i < n → f i < n) → (∀ i j, i < n → j < n → f i = f j → i = j) → ∀ v, v < n → ∃ i, i < n ∧ f i = v
  | 0, _, _, _, _, h => by omega
  | n + 1, f, hb, hi, v, hv => by
    have hg : ∀ v, v < n → ∃ i, i < n ∧ (if f i = n then f n else f i) = v := by
      refine pigeon n (fun i => if f i = n then f n else f i) (fun i h => ?_) (fun i j h1 h2 h => ?_)
      · show (if f i = n then f n else f i) < n
        have h1 := hb i (by omega)
        have h2 := hb n (by omega)
        split
        · rename_i he
          rcases Nat.lt_or_ge (f n) n with h3 | h3
          · exact h3
          · have := hi i n (by omega) (by omega) (by omega); omega
        · omega
      · have h : (if f i = n then f n else f i) = (if f j = n then f n else f j) := h
        split at h <;> split at h
        · exact hi i j (by omega) (by omega) (by omega)
        · have := hi n j (by omega) (by omega) h; omega
        · have := hi i n (by omega) (by omega) h; omega
        · exact hi i j (by omega) (by omega) h
    rcases Nat.lt_or_ge v n with h | h
    · obtain ⟨i, h1, h2⟩ := hg v h
      by_cases he : f i = n
      · rw [if_pos he] at h2; exact ⟨n, by omega, h2⟩
      · rw [if_neg he] at h2; exact ⟨i, by omega, h2⟩
    · have e : v = n := by omega
      by_cases hc : f n = n
      · exact ⟨n, by omega, by omega⟩
      · obtain ⟨i, h1, h2⟩ := hg (f n) (by have := hb n (by omega); omega)
        by_cases he : f i = n
        · exact ⟨i, by omega, by omega⟩
        · rw [if_neg he] at h2
          have := hi i n (by omega) (by omega) h2; omega
theorem div_prod : ∀ (qs : List Nat) (m : Nat), (∀ q ∈ qs, Pr q) → m ∣ qs.foldr (· * ·) 1 → m ≠ 1 → ∃ q ∈ qs, q ∣ m
  | [], m, _, h, h1 => absurd (Nat.dvd_one.1 h) h1
  | q :: qs, m, hp, h, h1 => by
    have hq := hp q (by simp)
    rcases hq.2 (Nat.gcd q m) (Nat.gcd_dvd_left q m) with hg | hg
    · have hc : Nat.Coprime m q := by rw [Nat.coprime_comm]; exact hg
      obtain ⟨r, hr, hd⟩ := div_prod qs m (fun r hr => hp r (by simp [hr])) (hc.dvd_of_dvd_mul_left h) h1
      exact ⟨r, by simp [hr], hd⟩
    · exact ⟨q, by simp, by rw [← hg]; exact Nat.gcd_dvd_right q m⟩
theorem pow_one {n a k : Nat} (h1 : 1 < n) (h : a ^ k % n = 1) (t : Nat) : a ^ (k * t) % n = 1 := by
  rw [Nat.pow_mul, Nat.pow_mod, h, Nat.one_pow]
  exact Nat.mod_eq_of_lt h1
theorem pow_add {n a : Nat} (i j : Nat) : a ^ (i + j) % n = (a ^ i % n) * (a ^ j % n) % n := by rw [Nat.pow_add, Nat.mul_mod]
theorem lucas {n a : Nat} {qs : List Nat} (h1 : 1 < n) (hqs : ∀ q ∈ qs, Pr q) (hprod : qs.foldr (· * ·) 1 = n - 1) (ha : a ^ (n - 1) % n = 1) (hq : ∀ q ∈ qs, a ^ ((n - 1) / q) % n ≠ 1) : Pr n ∧ Fer n := by
  obtain ⟨o, hon, ⟨ho0, ho1⟩, hol⟩ := least (p := fun k => 0 < k ∧ a ^ k % n = 1) (n - 1) ⟨by omega, ha⟩
  have hdiv : o ∣ n - 1 := by
    have e := Nat.div_add_mod (n - 1) o
    have hr := Nat.mod_lt (n - 1) ho0
    have e2 : a ^ ((n - 1) % o) % n = 1 := by
      have := ha
      rw [← e, pow_add, pow_one h1 ho1, Nat.one_mul, Nat.mod_mod] at this
      exact this
    rcases Nat.eq_zero_or_pos ((n - 1) % o) with h0 | h0
    · exact Nat.dvd_of_mod_eq_zero h0
    · exact absurd ⟨h0, e2⟩ (hol _ hr)
  have hoe : o = n - 1 := by
    obtain ⟨m, hm⟩ := hdiv
    by_cases hm1 : m = 1
    · rw [hm, hm1, Nat.mul_one]
    · obtain ⟨q, hqm, t, ht⟩ := div_prod qs m hqs (by rw [hprod, hm]; exact Nat.dvd_mul_left m o) hm1
      have hq0 : 0 < q := by have := (hqs q hqm).1; omega
      refine absurd ?_ (hq q hqm)
      rw [hm, ht, show o * (q * t) = q * (o * t) by rw [Nat.mul_left_comm], Nat.mul_div_cancel_left _ hq0]
      exact pow_one h1 ho1 t
  subst hoe
  have inj : ∀ i j, i < n - 1 → j < n - 1 → i < j → a ^ i % n ≠ a ^ j % n := fun i j hi hj hij he => by
    have e1 : a ^ (n - 1 - i + i) % n = a ^ (n - 1 - i + j) % n := by rw [pow_add, he, ← pow_add]
    rw [show n - 1 - i + i = n - 1 by omega, ha, show n - 1 - i + j = (n - 1) + (j - i) by omega, pow_add, ha, Nat.one_mul, Nat.mod_mod] at e1
    exact hol (j - i) (by omega) ⟨by omega, e1.symm⟩
  have pos : ∀ i, i < n - 1 → 0 < a ^ i % n := fun i hi => by
    rcases Nat.eq_zero_or_pos (a ^ i % n) with h0 | h0
    · have e1 : a ^ (n - 1 - i + i) % n = 0 := by rw [pow_add, h0, Nat.mul_zero, Nat.zero_mod]
      rw [show n - 1 - i + i = n - 1 by omega, ha] at e1
      omega
    · exact h0
  have sur : ∀ v, 0 < v → v < n → ∃ i, i < n - 1 ∧ a ^ i % n = v := fun v hv0 hv => by
    obtain ⟨i, hi, he⟩ := pigeon (n - 1) (fun i => a ^ i % n - 1) (fun i hi => by
      show a ^ i % n - 1 < n - 1
      have := pos i hi; have := Nat.mod_lt (a ^ i) (show 0 < n by omega); omega) (fun i j hi hj he => by
      have he : a ^ i % n - 1 = a ^ j % n - 1 := he
      have p1 := pos i hi; have p2 := pos j hj
      have he2 : a ^ i % n = a ^ j % n := by omega
      rcases Nat.lt_trichotomy i j with h | h | h
      · exact absurd he2 (inj i j hi hj h)
      · exact h
      · exact absurd he2.symm (inj j i hj hi h)) (v - 1) (by omega)
    have he : a ^ i % n - 1 = v - 1 := he
    have := pos i hi
    exact ⟨i, hi, by omega⟩
  refine ⟨⟨h1, fun d hd => ?_⟩, fun v hv0 hv => ?_⟩
  · rcases Nat.lt_or_ge d n with hdn | hdn
    · have hd0 : 0 < d := Nat.pos_of_dvd_of_pos hd (by omega)
      obtain ⟨i, hi, he⟩ := sur d hd0 hdn
      have e1 : (d * (a ^ (n - 1 - i) % n)) % n = 1 := by
        rw [← he, ← pow_add, show i + (n - 1 - i) = n - 1 by omega, ha]
      have h2 : d ∣ 1 := by
        rw [← e1]
        exact (Nat.dvd_mod_iff hd).2 (Nat.dvd_mul_right d _)
      exact .inl (Nat.dvd_one.1 h2)
    · exact .inr (Nat.le_antisymm (Nat.le_of_dvd (by omega) hd) hdn)
  · obtain ⟨i, hi, he⟩ := sur v hv0 hv
    rw [← he, ← Nat.pow_mod, ← Nat.pow_mul, Nat.mul_comm]
    exact pow_one h1 ha i
def ok (n a : Nat) (qs : List Nat) : Bool := decide (1 < n) && (qs.foldr (· * ·) 1 == n - 1) && (pm n 256 a (n - 1) == 1) && qs.all fun q => !(pm n 256 a ((n - 1) / q) == 1)
theorem by_ok {n a : Nat} {qs : List Nat} (hn : n < 2 ^ 256) (h : ok n a qs = true) (hqs : ∀ q ∈ qs, Pr q) : Pr n ∧ Fer n := by
  simp only [ok, Bool.and_eq_true, decide_eq_true_eq, beq_iff_eq, List.all_eq_true, Bool.not_eq_true', beq_eq_false_iff_ne, ne_eq] at h
  obtain ⟨⟨⟨h1, h2⟩, h3⟩, h4⟩ := h
  rw [pm_is _ _ _ _ (by omega)] at h3
  refine lucas h1 hqs h2 h3 fun q hq => ?_
  have := h4 q hq
  rw [pm_is _ _ _ _ (Nat.lt_of_le_of_lt (Nat.div_le_self _ _) (by omega))] at this
  exact this
theorem pr2 : Pr 2 := ⟨by decide, fun d hd => by
  have := Nat.le_of_dvd (by decide) hd
  match d, this, hd with
  | 0, _, h => exact absurd h (by decide)
  | 1, _, _ => exact .inl rfl
  | 2, _, _ => exact .inr rfl⟩
theorem p3 : Pr 3 ∧ Fer 3 :=
  by_ok (a := 2) (qs := [2]) (by decide) (by decide +kernel) (fun q hq => by
    simp only [List.mem_cons, List.not_mem_nil, or_false] at hq
    rw [hq]; exact pr2)
theorem p5 : Pr 5 ∧ Fer 5 :=
  by_ok (a := 2) (qs := [2, 2]) (by decide) (by decide +kernel) (fun q hq => by
    simp only [List.mem_cons, List.not_mem_nil, or_false] at hq
    rcases hq with rfl | rfl
    · exact pr2
    · exact pr2)
theorem p11 : Pr 11 ∧ Fer 11 :=
  by_ok (a := 2) (qs := [2, 5]) (by decide) (by decide +kernel) (fun q hq => by
    simp only [List.mem_cons, List.not_mem_nil, or_false] at hq
    rcases hq with rfl | rfl
    · exact pr2
    · exact p5.1)
end Go.Proofs.Ytaaplakahkgclaa.SL.G
