/- Elements: reduced, as bytes, of bytes, changed about: plain laws. -/
import Derived.Test.YtaaplakahkgclaaNPure
namespace Go.Proofs.Ytaaplakahkgclaa.SL.E
set_option linter.unusedVariables false
set_option linter.unusedSimpArgs false
open Go Go.Proofs.Ytaaplakahkgclaa.SL Go.Proofs.Ytaaplakahkgclaa.SL.W Go.Proofs.Ytaaplakahkgclaa.SL.F Go.Proofs.Ytaaplakahkgclaa.SL.N
structure Red (xs : List Int) (v : Int) : Prop where
  lim : Lim 2251799813685248 xs
  vl : val xs = v
  hi : v < P
theorem carL_val {xs : List Int} (hl : xs.length = 5) : val (carL xs 5) = val xs - 57896044618658097711785492504343953926634992332820282019728792003956564819968 * carC xs 5 ∧ Lim 2251799813685248 (carL xs 5) := by
  refine five (Q := fun xs => val (carL xs 5) = val xs - 57896044618658097711785492504343953926634992332820282019728792003956564819968 * carC xs 5 ∧ Lim 2251799813685248 (carL xs 5)) (fun a b c d e => ?_) xs hl
  have e1 : carL [a, b, c, d, e] 5 = [(a + 0) % 2251799813685248, (b + carC [a, b, c, d, e] 1) % 2251799813685248, (c + carC [a, b, c, d, e] 2) % 2251799813685248, (d + carC [a, b, c, d, e] 3) % 2251799813685248, (e + carC [a, b, c, d, e] 4) % 2251799813685248] := rfl
  have c1 : carC [a, b, c, d, e] 1 = (a + 0) / 2251799813685248 := rfl
  have c2 : carC [a, b, c, d, e] 2 = (b + carC [a, b, c, d, e] 1) / 2251799813685248 := rfl
  have c3 : carC [a, b, c, d, e] 3 = (c + carC [a, b, c, d, e] 2) / 2251799813685248 := rfl
  have c4 : carC [a, b, c, d, e] 4 = (d + carC [a, b, c, d, e] 3) / 2251799813685248 := rfl
  have c5 : carC [a, b, c, d, e] 5 = (e + carC [a, b, c, d, e] 4) / 2251799813685248 := rfl
  rw [e1]
  refine ⟨?_, rfl, fun x hx => ?_⟩
  · generalize carC [a, b, c, d, e] 1 = k1 at *
    generalize carC [a, b, c, d, e] 2 = k2 at *
    generalize carC [a, b, c, d, e] 3 = k3 at *
    generalize carC [a, b, c, d, e] 4 = k4 at *
    generalize carC [a, b, c, d, e] 5 = k5 at *
    simp only [val, List.foldr_cons, List.foldr_nil]
    omega
  · simp only [List.mem_cons, List.not_mem_nil, or_false] at hx
    rcases hx with rfl | rfl | rfl | rfl | rfl <;> omega
theorem lim_val {xs : List Int} (h : Lim 2251799813685248 xs) : 0 ≤ val xs ∧ val xs < 57896044618658097711785492504343953926634992332820282019728792003956564819968 := by
  obtain ⟨hl, hb⟩ := h
  match xs, hl with
  | [a, b, c, d, e], _ =>
    have q : ∀ x ∈ [a, b, c, d, e], 0 ≤ x ∧ x < 2251799813685248 := hb
    simp only [List.mem_cons, List.not_mem_nil, or_false, forall_eq_or_imp, forall_eq] at q
    simp only [val, List.foldr_cons, List.foldr_nil]
    omega
theorem lim_0 {xs : List Int} (h : Lim 2251799813685248 xs) : xs.getD 0 0 ≤ val xs := by
  obtain ⟨hl, hb⟩ := h
  match xs, hl with
  | [a, b, c, d, e], _ =>
    have q : ∀ x ∈ [a, b, c, d, e], 0 ≤ x ∧ x < 2251799813685248 := hb
    simp only [List.mem_cons, List.not_mem_nil, or_false, forall_eq_or_imp, forall_eq] at q
    show a ≤ _
    simp only [val, List.foldr_cons, List.foldr_nil]
    omega
theorem lim_set0 {b : Int} {xs : List Int} {v : Int} (h : Lim b xs) (hv : 0 ≤ v ∧ v < b) : Lim b (xs.set 0 v) := by
  refine ⟨by rw [List.length_set, h.1], fun x hx => ?_⟩
  rcases List.mem_or_eq_of_mem_set hx with hx | rfl
  · exact h.2 x hx
  · exact hv
theorem val_set0 {xs : List Int} (hl : xs.length = 5) (v : Int) : val (xs.set 0 v) = val xs - xs.getD 0 0 + v := by
  match xs, hl with
  | [a, b, c, d, e], _ =>
    show val [v, b, c, d, e] = val [a, b, c, d, e] - a + v
    simp only [val, List.foldr_cons, List.foldr_nil]
    omega
theorem carr_small {b : Int} {xs : List Int} (h : Lim b xs) (hb : b ≤ 9223372036854775808) : val (carr xs) ≤ 57896044618658097711785492504343953926634992332820282019728792003956564897792 := by
  have h1 := carL_val h.1
  have h2 := lim_val h1.2
  have h3 := carC_bd h hb 5 (Nat.le_refl _)
  rw [carr, val_set0 h1.2.1]
  omega
theorem carr_strict {b : Int} {xs : List Int} (h : Lim b xs) (hb : b ≤ 9223372036854775808) (hv : val xs ≤ 57896044618658097711785492504343953926634992332820282019728792003956564897792) : Lim 2251799813685248 (carr xs) := by
  have h1 := carL_val h.1
  have h2 := lim_val h1.2
  have h3 := carC_bd h hb 5 (Nat.le_refl _)
  have h4 := lim_0 h1.2
  have h5 := h1.2.at (i := 0) (by decide)
  rw [carr]
  refine lim_set0 h1.2 ?_
  rcases (show carC xs 5 = 0 ∨ 1 ≤ carC xs 5 by omega) with hc | hc
  · rw [hc]; omega
  · omega
theorem red_three {xs : List Int} {v : Int} (h : El xs v) : Lim 2251799813685248 (carr (carr (carr xs))) ∧ val (carr (carr (carr xs))) % P = v := by
  have l1 := carr_lim h.lim (by decide)
  have l2 := carr_lim l1 (by decide)
  have l3 := carr_strict l1 (by decide) (carr_small h.lim (by decide))
  have e3 := lim_val l3
  refine ⟨carr_strict l3 (by decide) (by omega), ?_⟩
  exact (El.carr l2 (by decide) (El.carr l1 (by decide) (El.carr h.lim (by decide) h.v).v).v).v
def up19 (zs : List Int) : List Int := zs.set 0 (zs.getD 0 0 + 19)
theorem up19_lim {zs : List Int} (h : Lim 2251799813685248 zs) : Lim 9223372036854775808 (up19 zs) := by
  have := h.at (i := 0) (by decide)
  exact lim_set0 (h.mono (by decide)) (by omega)
theorem q_start {zs : List Int} (h : Lim 2251799813685248 zs) : IntKind.wrap .u64 (zs.getD 0 0 + 19) / 2 ^ 51 = carC (up19 zs) 1 := by
  have h0 := h.at (i := 0) (by decide)
  rw [wrap64 (by omega) (by omega)]
  show _ = ((up19 zs).getD 0 0 + 0) / 2251799813685248
  rw [up19, set_at (by rw [h.1]; decide)]
  omega
theorem q_step {zs : List Int} {n : Nat} {q : Int} (h : Lim 2251799813685248 zs) (h1 : 1 ≤ n) (h5 : n < 5) (hq : q = carC (up19 zs) n) : IntKind.wrap .u64 (zs.getD n 0 + q) / 2 ^ 51 = carC (up19 zs) (n + 1) := by
  have h0 := h.at h5
  have hc := carC_bd (up19_lim h) (by decide) n (by omega)
  rw [hq, wrap64 (by omega) (by omega), carC, up19, F.getD_set_ne (by omega)]
  rfl
theorem q_val {zs : List Int} (h : Lim 2251799813685248 zs) : carC (up19 zs) 5 = (val zs + 19) / 57896044618658097711785492504343953926634992332820282019728792003956564819968 := by
  have h1 := carL_val (up19_lim h).1
  have h2 := lim_val h1.2
  rw [up19, val_set0 h.1] at h1
  rw [← up19] at h1
  omega
theorem red_end {zs os : List Int} {q v : Int} (h : Lim 2251799813685248 zs) (hv : val zs % P = v) (hq : q = carC (up19 zs) 5) (ho : os = carL (zs.set 0 (IntKind.wrap .u64 (zs.getD 0 0 + IntKind.wrap .u64 (19 * q)))) 5) :
    Red os v := by
  have h0 := h.at (i := 0) (by decide)
  have hz := lim_val h
  have e := q_val h
  rw [← hq] at e
  have hq2 : 0 ≤ q ∧ q ≤ 1 := by omega
  rw [wrap64 (x := 19 * q) (by omega) (by omega), wrap64 (by omega) (by omega)] at ho
  have hL : Lim 9223372036854775808 (zs.set 0 (zs.getD 0 0 + 19 * q)) := lim_set0 (h.mono (by decide)) (by omega)
  have h1 := carL_val hL.1
  have h2 := lim_val h1.2
  rw [val_set0 h.1] at h1
  rw [ho]
  refine ⟨h1.2, ?_, ?_⟩
  · rw [← hv]
    simp only [P]
    generalize carC (zs.set 0 (zs.getD 0 0 + 19 * q)) 5 = d at *
    generalize val (carL (zs.set 0 (zs.getD 0 0 + 19 * q)) 5) = c at *
    have e1 : c = val zs - zs.getD 0 0 + (zs.getD 0 0 + 19 * q) - 57896044618658097711785492504343953926634992332820282019728792003956564819968 * d := h1.1
    clear h1 ho
    rcases (show q = 0 ∨ q = 1 by omega) with hq0 | hq0
    · have hd : d = 0 := by omega
      omega
    · have hd : d = 1 := by omega
      omega
  · rw [← hv]
    exact Int.emod_lt_of_pos _ (by decide)
theorem lim_of_three {zs : List Int} {q : Int} (h : Lim 2251799813685248 zs) (hq : q = carC (up19 zs) 5) : Lim 9223372036854775808 (zs.set 0 (IntKind.wrap .u64 (zs.getD 0 0 + IntKind.wrap .u64 (19 * q)))) := by
  have h0 := h.at (i := 0) (by decide)
  have hz := lim_val h
  have e := q_val h
  rw [← hq] at e
  rw [wrap64 (x := 19 * q) (by omega) (by omega), wrap64 (by omega) (by omega)]
  exact lim_set0 (h.mono (by decide)) (by omega)
theorem or_shl (k : Nat) {a b : Int} (ha : 0 ≤ a ∧ a < 2 ^ k) (hb : 0 ≤ b) (hk : k ≤ 64) : bits2 .or .u64 a (IntKind.wrap .u64 (b * 2 ^ k)) = a + (b * 2 ^ k) % 18446744073709551616 := by
  have hk2 : (2 : Int) ^ k * 2 ^ (64 - k) = 18446744073709551616 := by rw [← Int.pow_add, show k + (64 - k) = 64 by omega]; rfl
  have hp : (0 : Int) < 2 ^ (64 - k) := Int.pow_pos (by decide)
  have hpk : (0 : Int) < 2 ^ k := Int.pow_pos (by decide)
  have e : (b * 2 ^ k) % 18446744073709551616 = (b % 2 ^ (64 - k)) * 2 ^ k := by
    rw [← hk2, Int.mul_comm b, Int.mul_emod_mul_of_pos _ _ hpk, Int.mul_comm]
  have hm := Int.emod_nonneg b (Int.ne_of_gt hp)
  have hm2 := Int.emod_lt_of_pos b hp
  have hle : (2 : Int) ^ k ≤ 18446744073709551616 := by
    rw [← hk2]
    have := Int.mul_le_mul_of_nonneg_left (show (1 : Int) ≤ 2 ^ (64 - k) by omega) (Int.le_of_lt hpk)
    omega
  rw [wrap_mod, bits_or .u64 rfl _ _ ⟨ha.1, show _ < (18446744073709551616 : Int) by omega⟩ ⟨by omega, show _ < (18446744073709551616 : Int) by omega⟩, e]
  exact or_add _ _ _ ha hm
theorem bytes_end {zs : List Int} {v : Int} (h : Red zs v) :
    leB (bits2 .or .u64 (bits2 .or .u64 0 (IntKind.wrap .u64 (zs.getD 0 0 * 2 ^ 0))) (IntKind.wrap .u64 (zs.getD 1 0 * 2 ^ 51))) 8 ++ leB (bits2 .or .u64 (bits2 .or .u64 0 (zs.getD 1 0 / 2 ^ 13)) (IntKind.wrap .u64 (zs.getD 2 0 * 2 ^ 38))) 8 ++
      leB (bits2 .or .u64 (bits2 .or .u64 0 (zs.getD 2 0 / 2 ^ 26)) (IntKind.wrap .u64 (zs.getD 3 0 * 2 ^ 25))) 8 ++ leB (bits2 .or .u64 (bits2 .or .u64 0 (zs.getD 3 0 / 2 ^ 39)) (IntKind.wrap .u64 (zs.getD 4 0 * 2 ^ 12))) 8 = leB v 32 := by
  have z : ∀ a : Int, 0 ≤ a ∧ a < 18446744073709551616 → bits2 .or .u64 0 a = a := fun a ha => by
    rw [bits_or .u64 rfl _ _ ⟨by decide, by decide⟩ ⟨ha.1, ha.2⟩]
    simp
    omega
  obtain ⟨⟨hl, hb⟩, hv, _⟩ := h
  match zs, hl with
  | [a, b, c, d, e], _ =>
    have q : ∀ x ∈ [a, b, c, d, e], 0 ≤ x ∧ x < 2251799813685248 := hb
    simp only [List.mem_cons, List.not_mem_nil, or_false, forall_eq_or_imp, forall_eq] at q
    obtain ⟨qa, qb, qc, qd, qe⟩ := q
    show leB (bits2 .or .u64 (bits2 .or .u64 0 (IntKind.wrap .u64 (a * 2 ^ 0))) (IntKind.wrap .u64 (b * 2 ^ 51))) 8 ++ leB (bits2 .or .u64 (bits2 .or .u64 0 (b / 2 ^ 13)) (IntKind.wrap .u64 (c * 2 ^ 38))) 8 ++
      leB (bits2 .or .u64 (bits2 .or .u64 0 (c / 2 ^ 26)) (IntKind.wrap .u64 (d * 2 ^ 25))) 8 ++ leB (bits2 .or .u64 (bits2 .or .u64 0 (d / 2 ^ 39)) (IntKind.wrap .u64 (e * 2 ^ 12))) 8 = _
    rw [wrap64 (x := a * 2 ^ 0) (by omega) (by omega), z _ (by omega), z _ (by omega), z _ (by omega), z _ (by omega), or_shl 51 (by omega) (by omega) (by decide), or_shl 38 (by omega) (by omega) (by decide), or_shl 25 (by omega) (by omega) (by decide), or_shl 12 (by omega) (by omega) (by decide)]
    have s1 := leB_add 8 24 v
    have s2 := leB_add 8 16 (v / 256 ^ 8)
    have s3 := leB_add 8 8 (v / 256 ^ 8 / 256 ^ 8)
    rw [show (32 : Nat) = 8 + 24 from rfl, s1, show (24 : Nat) = 8 + 16 from rfl, s2, show (16 : Nat) = 8 + 8 from rfl, s3, List.append_assoc, List.append_assoc]
    have hv2 : a + 2251799813685248 * (b + 2251799813685248 * (c + 2251799813685248 * (d + 2251799813685248 * e))) = v := by rw [← hv]; simp only [val, List.foldr_cons, List.foldr_nil]; omega
    have m1 := leB_mod 8 v
    have m2 := leB_mod 8 (v / 256 ^ 8)
    have m3 := leB_mod 8 (v / 256 ^ 8 / 256 ^ 8)
    have m4 := leB_mod 8 (v / 256 ^ 8 / 256 ^ 8 / 256 ^ 8)
    rw [← m1, ← m2, ← m3, ← m4]
    have p8 : (256 : Int) ^ 8 = 18446744073709551616 := by decide
    rw [p8]
    congr 1
    · congr 1
      omega
    · congr 1
      · congr 1
        omega
      · congr 1
        · congr 1
          omega
        · congr 1
          omega
theorem Red.dg {zs : List Int} {v : Int} (h : Red zs v) : Dg (leB v 32) v := by
  have := lim_val h.lim
  rw [h.vl] at this
  exact ⟨rfl, this.1, by omega⟩
theorem bytes_dg {zs : List Int} {v : Int} (h : Red zs v) : Dg
    (leB (bits2 .or .u64 (bits2 .or .u64 0 (IntKind.wrap .u64 (zs.getD 0 0 * 2 ^ 0))) (IntKind.wrap .u64 (zs.getD 1 0 * 2 ^ 51))) 8 ++ leB (bits2 .or .u64 (bits2 .or .u64 0 (zs.getD 1 0 / 2 ^ 13)) (IntKind.wrap .u64 (zs.getD 2 0 * 2 ^ 38))) 8 ++
      leB (bits2 .or .u64 (bits2 .or .u64 0 (zs.getD 2 0 / 2 ^ 26)) (IntKind.wrap .u64 (zs.getD 3 0 * 2 ^ 25))) 8 ++ leB (bits2 .or .u64 (bits2 .or .u64 0 (zs.getD 3 0 / 2 ^ 39)) (IntKind.wrap .u64 (zs.getD 4 0 * 2 ^ 12))) 8) v := by
  rw [bytes_end h]
  exact h.dg
theorem bytes_in (a b c d : Int) : In .u8 (leB a 8 ++ leB b 8 ++ leB c 8 ++ leB d 8) := (((leB_in _ _).append (leB_in _ _)).append (leB_in _ _)).append (leB_in _ _)
theorem small_el {n : Int} (h : fits .u32 n) : El [n, 0, 0, 0, 0] n := by
  simp only [fits] at h
  refine ⟨⟨rfl, fun x hx => ?_⟩, ?_⟩
  · simp only [List.mem_cons, List.not_mem_nil, or_false] at hx
    rcases hx with rfl | rfl | rfl | rfl | rfl <;> omega
  · simp only [val, List.foldr_cons, List.foldr_nil, P]
    omega
def pw (v : Int) (n : Nat) : Int := v ^ n % P
theorem pw_mul (v : Int) (m n : Nat) : pw v m * pw v n % P = pw v (m + n) := by rw [pw, pw, pw, ← Int.mul_emod, Int.pow_add]
theorem pw_one {v : Int} (h : 0 ≤ v ∧ v < P) : pw v 1 = v := by rw [pw, Int.pow_one]; exact Int.emod_eq_of_lt h.1 h.2
theorem pw_bd (v : Int) (n : Nat) : 0 ≤ pw v n ∧ pw v n < P := ⟨Int.emod_nonneg _ (by decide), Int.emod_lt_of_pos _ (by decide)⟩
theorem pw_pow (v : Int) (m : Nat) : ∀ n, pw (pw v m) n = pw v (m * n)
  | 0 => by show (pw v m) ^ 0 % P = v ^ (m * 0) % P; rw [Nat.mul_zero, Int.pow_zero, Int.pow_zero]
  | n + 1 => by
    have h := pw_mul (pw v m) n 1
    rw [← h, pw_pow v m n, pw_one (pw_bd v m), pw_mul]
    rfl
theorem el_pw1 {xs : List Int} {v : Int} (h : El xs v) : El xs (pw v 1) := by rw [pw_one h.bd]; exact h
theorem el_cast {xs : List Int} {v w : Int} (h : El xs v) (e : v = w) : El xs w := by rw [← e]; exact h
theorem and_one {b : Int} (h : 0 ≤ b ∧ b < 18446744073709551616) : bits2 .and .u64 b 1 = b % 2 := by
  rw [bits_and .u64 rfl b _ ⟨h.1, h.2⟩ ⟨by decide, by decide⟩, show (1 : Int).toNat = 2 ^ 1 - 1 from rfl, Nat.and_two_pow_sub_one_eq_mod]
  omega
theorem xor_fits (a b : Int) : 0 ≤ bits2 .xor .u64 a b ∧ bits2 .xor .u64 a b < 18446744073709551616 := fits_bits2 .xor .u64 a b
theorem swap_bits {b x y : Int} (hb : 0 ≤ b ∧ b < 18446744073709551616) (hx : 0 ≤ x ∧ x < 18446744073709551616) (hy : 0 ≤ y ∧ y < 18446744073709551616) :
    bits2 .xor .u64 x (bits2 .and .u64 (IntKind.wrap .u64 (0 - bits2 .and .u64 b 1)) (bits2 .xor .u64 x y)) = (if b % 2 = 1 then y else x) ∧
    bits2 .xor .u64 y (bits2 .and .u64 (IntKind.wrap .u64 (0 - bits2 .and .u64 b 1)) (bits2 .xor .u64 x y)) = (if b % 2 = 1 then x else y) := by
  rw [and_one hb]
  have hxy : bits2 .xor .u64 x y = ((x.toNat ^^^ y.toNat : Nat) : Int) := bits_xor .u64 rfl x y ⟨hx.1, hx.2⟩ ⟨hy.1, hy.2⟩
  have fx := xor_fits x y
  by_cases h : b % 2 = 1
  · rw [if_pos h, if_pos h, h, show IntKind.wrap .u64 (0 - 1) = 18446744073709551615 by decide]
    have ha : bits2 .and .u64 18446744073709551615 (bits2 .xor .u64 x y) = bits2 .xor .u64 x y := by
      rw [bits_and .u64 rfl _ _ ⟨by decide, by decide⟩ ⟨fx.1, fx.2⟩, show (18446744073709551615 : Int).toNat = 2 ^ 64 - 1 from rfl, Nat.and_comm, Nat.and_two_pow_sub_one_eq_mod]
      omega
    rw [ha, bits_xor .u64 rfl x _ ⟨hx.1, hx.2⟩ ⟨fx.1, fx.2⟩, bits_xor .u64 rfl y _ ⟨hy.1, hy.2⟩ ⟨fx.1, fx.2⟩, hxy, Int.toNat_natCast]
    refine ⟨?_, ?_⟩
    · rw [← Nat.xor_assoc, Nat.xor_self, Nat.zero_xor]; omega
    · rw [Nat.xor_comm x.toNat, ← Nat.xor_assoc, Nat.xor_self, Nat.zero_xor]; omega
  · have h0 : b % 2 = 0 := by omega
    rw [if_neg h, if_neg h, h0, show IntKind.wrap .u64 (0 - 0) = 0 by decide]
    have ha : bits2 .and .u64 0 (bits2 .xor .u64 x y) = 0 := by
      rw [bits_and .u64 rfl _ _ ⟨by decide, by decide⟩ ⟨fx.1, fx.2⟩]
      simp
    rw [ha, bits_xor .u64 rfl x 0 ⟨hx.1, hx.2⟩ ⟨by decide, by decide⟩, bits_xor .u64 rfl y 0 ⟨hy.1, hy.2⟩ ⟨by decide, by decide⟩]
    refine ⟨?_, ?_⟩ <;> simp <;> omega
def sw (b : Int) (xs ys : List Int) : List Int := if b % 2 = 1 then ys else xs
theorem sw_end {b : Int} {xs ys os : List Int} (hl : xs.length = 5) (hm : ys.length = 5) (ho : os = mapP (fun i => if b % 2 = 1 then ys.getD i 0 else xs.getD i 0) xs 5) : os = sw b xs ys := by
  rw [ho]
  refine N.ext_getD ?_ (fun i hi => ?_)
  · rw [mapP_len _ _ _ (by omega), sw]; split <;> omega
  · rw [mapP_len _ _ _ (by omega)] at hi
    rw [mapP_get (by omega), sw]
    split <;> rfl
theorem sw_step {b : Int} {xs ys os us : List Int} {n : Nat} (hb : 0 ≤ b ∧ b < 18446744073709551616) (hx : In .u64 xs) (hy : In .u64 ys) (hl : xs.length = 5) (hm : ys.length = 5) (hn : n < 5) (ho : os = mapP (fun i => if b % 2 = 1 then ys.getD i 0 else xs.getD i 0) xs n) (hu : us = mapP (fun i => if b % 2 = 1 then xs.getD i 0 else ys.getD i 0) ys n) :
    os.set n (bits2 .xor .u64 (os.getD n 0) (bits2 .and .u64 (IntKind.wrap .u64 (0 - bits2 .and .u64 b 1)) (bits2 .xor .u64 (os.getD n 0) (us.getD n 0)))) = mapP (fun i => if b % 2 = 1 then ys.getD i 0 else xs.getD i 0) xs (n + 1) ∧
    us.set n (bits2 .xor .u64 (us.getD n 0) (bits2 .and .u64 (IntKind.wrap .u64 (0 - bits2 .and .u64 b 1)) (bits2 .xor .u64 (os.getD n 0) (us.getD n 0)))) = mapP (fun i => if b % 2 = 1 then xs.getD i 0 else ys.getD i 0) ys (n + 1) := by
  have e1 : os.getD n 0 = xs.getD n 0 := by rw [ho, mapP_at]
  have e2 : us.getD n 0 = ys.getD n 0 := by rw [hu, mapP_at]
  have hs := swap_bits hb (hx.at_ n) (hy.at_ n)
  rw [e1, e2, hs.1, hs.2, ho, hu]
  exact ⟨mapP_step (fun i => if b % 2 = 1 then ys.getD i 0 else xs.getD i 0) _ _ (by omega), mapP_step (fun i => if b % 2 = 1 then xs.getD i 0 else ys.getD i 0) _ _ (by omega)⟩
theorem leN_take {M : List Int} {n : Nat} : ∀ {m : Nat}, m ≤ n → leN (M.take n) m = leN M m := fun {m} h => leN_same (fun i hi => by simp [List.getD_eq_getElem?_getD, List.getElem?_take, show i < n by omega])
theorem leN_mid {M : List Int} (hM : In .u8 M) {k m : Nat} (h : k + m ≤ 40) : leN (M.drop k) m = leN M 40 / 256 ^ k % 256 ^ m := by
  have e1 := leN_split M k (40 - k)
  have e2 := leN_split (M.drop k) m (40 - k - m)
  rw [show k + (40 - k) = 40 by omega] at e1
  rw [show m + (40 - k - m) = 40 - k by omega] at e2
  have b1 := leN_bd hM k
  have b2 := leN_bd (hM.drop k) m
  rw [e1, Int.add_mul_ediv_left _ _ (Int.ne_of_gt (pow_pos' k)), Int.ediv_eq_zero_of_lt b1.1 b1.2, Int.zero_add, e2, Int.add_mul_emod_self_left, Int.emod_eq_of_lt b2.1 b2.2]
theorem limb_sum {lo hi : Int} {r : Nat} (hr : 1 ≤ r ∧ r ≤ 7) (h0 : 0 ≤ lo ∧ lo < 18446744073709551616) (h1 : 0 ≤ hi ∧ hi < 256) :
    bits2 .and .u64 (bits2 .or .u64 (lo / 2 ^ r) (IntKind.wrap .u64 (hi * 2 ^ (64 - r)))) 2251799813685247 = (lo + hi * 18446744073709551616) / 2 ^ r % 2251799813685248 := by
  have hf := fits_bits2 .or .u64 (lo / 2 ^ r) (IntKind.wrap .u64 (hi * 2 ^ (64 - r)))
  simp only [fits] at hf
  rw [and_mask hf.1 hf.2]
  rcases (show r = 1 ∨ r = 2 ∨ r = 3 ∨ r = 4 ∨ r = 5 ∨ r = 6 ∨ r = 7 by omega) with rfl | rfl | rfl | rfl | rfl | rfl | rfl
  all_goals
    rw [or_shl _ ⟨by omega, by omega⟩ h1.1 (by decide)]
    omega
theorem limb {M : List Int} (hM : In .u8 M) {k r : Nat} (hk : k + 9 ≤ 40) (hr : 1 ≤ r ∧ r ≤ 7) :
    bits2 .and .u64 (bits2 .or .u64 (leN ((M.drop k).take (40 - k)) 8 / 2 ^ r) (IntKind.wrap .u64 (M.getD (k + 8) 0 * 2 ^ (64 - r)))) 2251799813685247 = leN M 40 / 256 ^ k % 256 ^ 9 / 2 ^ r % 2251799813685248 := by
  have e1 := leN_bd (hM.drop k) 8
  rw [show (256 : Int) ^ 8 = 18446744073709551616 by decide] at e1
  have e2 : 0 ≤ M.getD (k + 8) 0 ∧ M.getD (k + 8) 0 < 256 := hM.at_ _
  have e3 := leN_succ (M.drop k) 8
  rw [show (256 : Int) ^ 8 = 18446744073709551616 by decide, show (M.drop k).getD 8 0 = M.getD (k + 8) 0 by simp [List.getD_eq_getElem?_getD]] at e3
  rw [leN_take (by omega), limb_sum hr e1 e2, ← leN_mid hM hk, ← e3]
theorem limb0 {M : List Int} (hM : In .u8 M) : bits2 .and .u64 (leN ((M.drop 0).take (40 - 0)) 8) 2251799813685247 = leN M 40 % 2251799813685248 := by
  have e1 := leN_bd (hM.drop 0) 8
  rw [show (256 : Int) ^ 8 = 18446744073709551616 by decide] at e1
  rw [leN_take (by omega), and_mask e1.1 e1.2, leN_mid hM (by omega), show (256 : Int) ^ 8 = 18446744073709551616 by decide, show (256 : Int) ^ 0 = 1 by decide]
  omega
theorem and127 {x : Int} (h : 0 ≤ x ∧ x < 256) : bits2 .and .u8 x 127 = x % 128 := by
  rw [bits_and .u8 rfl x _ ⟨h.1, h.2⟩ ⟨by decide, by decide⟩, show (127 : Int).toNat = 2 ^ 7 - 1 from rfl, Nat.and_two_pow_sub_one_eq_mod]
  omega
def allL (bs : List Int) : List Int := putl (List.replicate 40 (0 : Int)) 0 (bs.take 32)
theorem all_len (bs : List Int) : (allL bs).length = 40 := by
  rw [allL, putl_len (by simp; omega)]
  simp
theorem all_in {bs : List Int} (hb : In .u8 bs) : In .u8 (allL bs) := In.putl (In.replicate _ _) (hb.take _)
theorem all_get {bs : List Int} (i : Nat) : (allL bs).getD i 0 = if i < 32 then bs.getD i 0 else 0 := by
  rw [allL, putl, List.take_zero, List.nil_append, Nat.zero_add]
  rcases Nat.lt_or_ge i (bs.take 32).length with h | h
  · have h2 : i < 32 := by rw [List.length_take] at h; omega
    rw [if_pos h2, List.getD_eq_getElem?_getD, List.getElem?_append_left h, List.getElem?_take, if_pos h2, ← List.getD_eq_getElem?_getD]
  · rw [getD_app_r h]
    have z : (List.drop (bs.take 32).length (List.replicate 40 (0 : Int))).getD (i - (bs.take 32).length) 0 = 0 := by
      rw [List.drop_replicate, List.getD_eq_getElem?_getD, List.getElem?_replicate]
      split <;> rfl
    rw [z]
    split
    · rw [getD_ge bs i (by rw [List.length_take] at h; omega)]
    · rfl
theorem all_val {bs : List Int} (hb : In .u8 bs) : leN ((allL bs).set 31 (bits2 .and .u8 ((allL bs).getD 31 0) 127)) 40 = fromV bs := by
  have h31 : 0 ≤ (allL bs).getD 31 0 ∧ (allL bs).getD 31 0 < 256 := (all_in hb).at_ 31
  have hl := all_len bs
  have e40 : ∀ m, leN ((allL bs).set 31 (bits2 .and .u8 ((allL bs).getD 31 0) 127)) (32 + m) = leN ((allL bs).set 31 (bits2 .and .u8 ((allL bs).getD 31 0) 127)) 32 := fun m => by
    induction m with
    | zero => rfl
    | succ m ih => rw [← Nat.add_assoc, leN_succ, ih, F.getD_set_ne (show 31 ≠ 32 + m by omega), all_get (32 + m), if_neg (show ¬ 32 + m < 32 by omega), Int.zero_mul, Int.add_zero]
  rw [show (40 : Nat) = 32 + 8 from rfl, e40, leN_set _ (by decide) (by omega), and127 h31, fromV, leN_same (xs := allL bs) (ys := bs) (fun i hi => by rw [all_get, if_pos hi])]
  rw [all_get, if_pos (by decide)] at *
  have e := leN_succ bs 31
  have b := leN_bd hb 31
  have b31 : 0 ≤ bs.getD 31 0 ∧ bs.getD 31 0 < 256 := hb.at_ 31
  rw [show (256 : Int) ^ 31 = 452312848583266388373324160190187140051835877600158453279131187530910662656 by decide] at *
  rw [show (31 + 1 : Nat) = 32 from rfl] at e
  rw [e]
  generalize leN bs 31 = q at *
  generalize bs.getD 31 0 = d at *
  omega
theorem from_el {M zs : List Int} (hM : In .u8 M) (hX : 0 ≤ leN M 40 ∧ leN M 40 < 57896044618658097711785492504343953926634992332820282019728792003956564819968)
    (hz : zs = [leN M 40 % 2251799813685248, leN M 40 / 256 ^ 6 % 256 ^ 9 / 2 ^ 3 % 2251799813685248, leN M 40 / 256 ^ 12 % 256 ^ 9 / 2 ^ 6 % 2251799813685248, leN M 40 / 256 ^ 19 % 256 ^ 9 / 2 ^ 1 % 2251799813685248, leN M 40 / 256 ^ 25 % 256 ^ 9 / 2 ^ 4 % 2251799813685248]) : El zs (leN M 40 % P) := by
  subst hz
  generalize leN M 40 = X at *
  refine ⟨⟨rfl, fun x hx => ?_⟩, ?_⟩
  · simp only [List.mem_cons, List.not_mem_nil, or_false] at hx
    rcases hx with rfl | rfl | rfl | rfl | rfl <;> omega
  · congr 1
    rw [show (256 : Int) ^ 6 = 281474976710656 by decide, show (256 : Int) ^ 9 = 4722366482869645213696 by decide, show (256 : Int) ^ 12 = 79228162514264337593543950336 by decide, show (256 : Int) ^ 19 = 5708990770823839524233143877797980545530986496 by decide, show (256 : Int) ^ 25 = 1606938044258990275541962092341162602522202993782792835301376 by decide]
    simp only [val, List.foldr_cons, List.foldr_nil]
    omega
theorem fromV_bd (bs : List Int) : 0 ≤ fromV bs ∧ fromV bs < 57896044618658097711785492504343953926634992332820282019728792003956564819968 := by
  rw [fromV]
  omega
theorem all_inn {bs zs : List Int} (hb : In .u8 bs) (h : zs.length = 32) : In .u8 ((putl (List.replicate 40 (0 : Int)) 0 (bs.take zs.length)).set 31 (bits2 .and .u8 ((putl (List.replicate 40 (0 : Int)) 0 (bs.take zs.length)).getD 31 0) 127)) := by
  rw [h]
  exact (all_in hb).set _ (fits_bits2 _ _ _ _)
theorem from_end {bs zs M os : List Int} (hb : In .u8 bs) (h : zs.length = 32) (hM : M = (putl (List.replicate 40 (0 : Int)) 0 (bs.take zs.length)).set 31 (bits2 .and .u8 ((putl (List.replicate 40 (0 : Int)) 0 (bs.take zs.length)).getD 31 0) 127))
    (ho : os = [bits2 .and .u64 (leN ((M.drop 0).take (40 - 0)) 8) 2251799813685247,
      bits2 .and .u64 (bits2 .or .u64 (leN ((M.drop 6).take (40 - 6)) 8 / 2 ^ 3) (IntKind.wrap .u64 (M.getD 14 0 * 2 ^ 61))) 2251799813685247,
      bits2 .and .u64 (bits2 .or .u64 (leN ((M.drop 12).take (40 - 12)) 8 / 2 ^ 6) (IntKind.wrap .u64 (M.getD 20 0 * 2 ^ 58))) 2251799813685247,
      bits2 .and .u64 (bits2 .or .u64 (leN ((M.drop 19).take (40 - 19)) 8 / 2 ^ 1) (IntKind.wrap .u64 (M.getD 27 0 * 2 ^ 63))) 2251799813685247,
      bits2 .and .u64 (bits2 .or .u64 (leN ((M.drop 25).take (40 - 25)) 8 / 2 ^ 4) (IntKind.wrap .u64 (M.getD 33 0 * 2 ^ 60))) 2251799813685247]) : El os (fromV bs % P) := by
  rw [h] at hM
  have hM2 : M = (allL bs).set 31 (bits2 .and .u8 ((allL bs).getD 31 0) 127) := hM
  have hi : In .u8 M := by rw [hM2]; exact (all_in hb).set _ (fits_bits2 _ _ _ _)
  have hv : leN M 40 = fromV bs := by rw [hM2]; exact all_val hb
  have l1 := limb hi (k := 6) (r := 3) (by decide) (by decide)
  have l2 := limb hi (k := 12) (r := 6) (by decide) (by decide)
  have l3 := limb hi (k := 19) (r := 1) (by decide) (by decide)
  have l4 := limb hi (k := 25) (r := 4) (by decide) (by decide)
  rw [limb0 hi] at ho
  have e := from_el hi (by rw [hv]; exact fromV_bd bs) (zs := os) (by rw [ho, ← l1, ← l2, ← l3, ← l4])
  rw [hv] at e
  exact e
theorem al (a b : Int) : (a % P + b) % P = (a + b) % P := by rw [Int.add_emod, Int.emod_emod, ← Int.add_emod]
def swv (b v w : Int) : Int := if b % 2 = 1 then w else v
theorem sw_el {b : Int} {xs ys : List Int} {v w : Int} (hx : El xs v) (hy : El ys w) : El (sw b xs ys) (swv b v w) := by
  unfold sw swv
  split <;> assumption
end Go.Proofs.Ytaaplakahkgclaa.SL.E
