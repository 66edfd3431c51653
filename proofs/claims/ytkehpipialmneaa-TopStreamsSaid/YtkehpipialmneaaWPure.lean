/- Numbers as bytes: plain laws. -/
import Derived.Test.YtkehpipialmneaaSLq
import Derived.Lib.Bytealg
namespace Go.Proofs.Ytkehpipialmneaa.SL.W
set_option linter.unusedVariables false
set_option linter.unusedSimpArgs false
open Go Go.Proofs.Ytkehpipialmneaa.SL

def leN (xs : List Int) : Nat → Int
  | 0 => 0
  | k + 1 => leN xs k + xs.getD k 0 * 256 ^ k
def beN (xs : List Int) : Nat → Int
  | 0 => 0
  | k + 1 => beN xs k * 256 + xs.getD k 0
def leB (v : Int) : Nat → List Int
  | 0 => []
  | n + 1 => v % 256 :: leB (v / 256) n

theorem pow_pos' (n : Nat) : (0 : Int) < 256 ^ n := Int.pow_pos (by decide)

theorem leN_bd {xs : List Int} (hx : In .u8 xs) : ∀ k, 0 ≤ leN xs k ∧ leN xs k < 256 ^ k
  | 0 => by simp [leN]
  | k + 1 => by
    obtain ⟨h0, h1⟩ := leN_bd hx k
    have hb : 0 ≤ xs.getD k 0 ∧ xs.getD k 0 < 256 := hx.at_ k
    have hp := pow_pos' k
    have h2 : 0 ≤ xs.getD k 0 * 256 ^ k := Int.mul_nonneg hb.1 (Int.le_of_lt hp)
    have h3 : xs.getD k 0 * 256 ^ k ≤ 255 * 256 ^ k := Int.mul_le_mul_of_nonneg_right (by omega) (Int.le_of_lt hp)
    simp only [leN, Int.pow_succ]
    omega

theorem beN_bd {xs : List Int} (hx : In .u8 xs) : ∀ k, 0 ≤ beN xs k ∧ beN xs k < 256 ^ k
  | 0 => by simp [beN]
  | k + 1 => by
    obtain ⟨h0, h1⟩ := beN_bd hx k
    have hb : 0 ≤ xs.getD k 0 ∧ xs.getD k 0 < 256 := hx.at_ k
    simp only [beN, Int.pow_succ]
    omega

theorem pow_le {m n : Nat} (h : m ≤ n) : (256 : Int) ^ m ≤ 256 ^ n := by
  have h1 := Nat.pow_le_pow_right (n := 256) (by decide) h
  have e : ∀ k, (256 : Int) ^ k = ((256 ^ k : Nat) : Int) := fun k => (Int.natCast_pow 256 k).symm
  rw [e, e]
  exact Int.ofNat_le.2 h1
theorem nat_lt {a : Int} {n : Nat} (h : 0 ≤ a ∧ a < 2 ^ n) : a.toNat < 2 ^ n := by
  obtain ⟨x, rfl⟩ := Int.eq_ofNat_of_zero_le h.1
  rw [Int.toNat_natCast]
  exact_mod_cast h.2

theorem toNat_ofInt (n : Nat) (a : Int) (h0 : 0 ≤ a) (h1 : a < 2 ^ n) : (BitVec.ofInt n a).toNat = a.toNat := by
  rw [BitVec.toNat_ofInt]
  rw [Int.emod_eq_of_lt h0 (by rw [Int.natCast_pow]; exact h1)]

theorem bits_or (k : IntKind) (hk : k.signed = false) (a b : Int) (ha : 0 ≤ a ∧ a < 2 ^ k.bits) (hb : 0 ≤ b ∧ b < 2 ^ k.bits) : bits2 .or k a b = ((a.toNat ||| b.toNat : Nat) : Int) := by
  simp only [bits2, BitVec.toNat_or, toNat_ofInt _ _ ha.1 ha.2, toNat_ofInt _ _ hb.1 hb.2]
  have h : a.toNat ||| b.toNat < 2 ^ k.bits := Nat.or_lt_two_pow (nat_lt ha) (nat_lt hb)
  unfold IntKind.wrap
  simp only [hk, Bool.false_and, Bool.false_eq_true, if_false]
  rw [Int.emod_eq_of_lt (by omega) (by exact_mod_cast h)]
theorem bits_xor (k : IntKind) (hk : k.signed = false) (a b : Int) (ha : 0 ≤ a ∧ a < 2 ^ k.bits) (hb : 0 ≤ b ∧ b < 2 ^ k.bits) : bits2 .xor k a b = ((a.toNat ^^^ b.toNat : Nat) : Int) := by
  simp only [bits2, BitVec.toNat_xor, toNat_ofInt _ _ ha.1 ha.2, toNat_ofInt _ _ hb.1 hb.2]
  have h : a.toNat ^^^ b.toNat < 2 ^ k.bits := Nat.xor_lt_two_pow (nat_lt ha) (nat_lt hb)
  unfold IntKind.wrap
  simp only [hk, Bool.false_and, Bool.false_eq_true, if_false]
  rw [Int.emod_eq_of_lt (by omega) (by exact_mod_cast h)]
theorem bits_and (k : IntKind) (hk : k.signed = false) (a b : Int) (ha : 0 ≤ a ∧ a < 2 ^ k.bits) (hb : 0 ≤ b ∧ b < 2 ^ k.bits) : bits2 .and k a b = ((a.toNat &&& b.toNat : Nat) : Int) := by
  simp only [bits2, BitVec.toNat_and, toNat_ofInt _ _ ha.1 ha.2, toNat_ofInt _ _ hb.1 hb.2]
  have h : a.toNat &&& b.toNat < 2 ^ k.bits := Nat.lt_of_le_of_lt Nat.and_le_left (nat_lt ha)
  unfold IntKind.wrap
  simp only [hk, Bool.false_and, Bool.false_eq_true, if_false]
  rw [Int.emod_eq_of_lt (by omega) (by exact_mod_cast h)]

theorem or_add (a b : Int) (i : Nat) (ha : 0 ≤ a ∧ a < 2 ^ i) (hb : 0 ≤ b) : ((a.toNat ||| (b * 2 ^ i).toNat : Nat) : Int) = a + b * 2 ^ i := by
  obtain ⟨x, rfl⟩ := Int.eq_ofNat_of_zero_le ha.1
  obtain ⟨y, rfl⟩ := Int.eq_ofNat_of_zero_le hb
  have hx : x < 2 ^ i := by have := ha.2; exact_mod_cast this
  have e : ((y : Int) * 2 ^ i).toNat = y <<< i := by
    rw [Nat.shiftLeft_eq]
    have : ((y : Int) * 2 ^ i) = ((y * 2 ^ i : Nat) : Int) := by push_cast; rfl
    rw [this, Int.toNat_natCast]
  rw [Int.toNat_natCast, e, Nat.or_comm, ← Nat.shiftLeft_add_eq_or_of_lt hx, Nat.shiftLeft_eq]
  push_cast
  omega

theorem pow256 (k : Nat) : (256 : Int) ^ k = 2 ^ (8 * k) := by rw [Int.pow_mul]; rfl

theorem get_step {xs : List Int} (hx : In .u8 xs) (i : Int) (h0 : 0 ≤ i) (h8 : i < 8) : bits2 .or .u64 (leN xs i.toNat) (IntKind.wrap .u64 (xs.getD i.toNat 0 * 2 ^ (min (8 * i).toNat 64))) = leN xs (i + 1).toNat := by
  obtain ⟨n, rfl⟩ := Int.eq_ofNat_of_zero_le h0
  have hb : 0 ≤ xs.getD n 0 ∧ xs.getD n 0 < 256 := hx.at_ n
  have hl := leN_bd hx n
  have e1 : min ((8 * (n : Int)).toNat) 64 = 8 * n := by omega
  have e2 : ((n : Int) + 1).toNat = n + 1 := by omega
  have hp := pow_pos' n
  have hn : n ≤ 7 := by omega
  have hpl : (256 : Int) ^ n ≤ 256 ^ 7 := pow_le hn
  have hlt : xs.getD n 0 * 256 ^ n ≤ 255 * 256 ^ n := Int.mul_le_mul_of_nonneg_right (by omega) (Int.le_of_lt hp)
  have hnn : 0 ≤ xs.getD n 0 * 256 ^ n := Int.mul_nonneg hb.1 (Int.le_of_lt hp)
  rw [Int.toNat_natCast, e1, e2, ← pow256, wrap_u64 _ hnn (by omega), bits_or .u64 rfl _ _ ⟨hl.1, by have := hl.2; simp only [IntKind.bits]; omega⟩ ⟨hnn, by simp only [IntKind.bits]; omega⟩]
  rw [pow256] at hl ⊢
  rw [or_add _ _ _ hl hb.1, leN, pow256]

theorem getBig_step {xs : List Int} (hx : In .u8 xs) (i : Int) (h0 : 0 ≤ i) (h8 : i < 8) : bits2 .or .u64 (IntKind.wrap .u64 (beN xs i.toNat * 2 ^ 8)) (xs.getD i.toNat 0) = beN xs (i + 1).toNat := by
  obtain ⟨n, rfl⟩ := Int.eq_ofNat_of_zero_le h0
  have hb : 0 ≤ xs.getD n 0 ∧ xs.getD n 0 < 256 := hx.at_ n
  have hl := beN_bd hx n
  have e2 : ((n : Int) + 1).toNat = n + 1 := by omega
  have hpl : (256 : Int) ^ n ≤ 256 ^ 7 := pow_le (by omega)
  rw [Int.toNat_natCast, e2, wrap_u64 _ (by omega) (by omega), bits_or .u64 rfl _ _ (by simp only [IntKind.bits]; omega) (by simp only [IntKind.bits]; omega)]
  rw [Nat.or_comm, or_add _ _ 8 (by omega) hl.1, beN]
  omega

theorem leN_front (xs : List Int) : ∀ m, leN xs (m + 1) = xs.getD 0 0 + 256 * leN (xs.drop 1) m
  | 0 => by simp [leN]
  | m + 1 => by
    have ih := leN_front xs m
    have hd : (xs.drop 1).getD m 0 = xs.getD (m + 1) 0 := by simp [List.getD_eq_getElem?_getD, Nat.add_comm 1 m]
    rw [leN, ih, leN, hd, Int.pow_succ]
    have : (xs.getD (m + 1) 0) * (256 ^ m * 256) = 256 * ((xs.getD (m + 1) 0) * 256 ^ m) := by rw [← Int.mul_assoc, Int.mul_comm]
    rw [this, Int.mul_add]
    omega

theorem leB_len : ∀ (n : Nat) (v : Int), (leB v n).length = n
  | 0, _ => rfl
  | n + 1, v => by simp [leB, leB_len n]
theorem leB_in : ∀ (n : Nat) (v : Int), In .u8 (leB v n)
  | 0, _ => In.nil _
  | n + 1, v => In.cons (by simp only [fits]; omega) (leB_in n _)
theorem leB_snoc : ∀ (n : Nat) (v : Int), leB v (n + 1) = leB v n ++ [v / 256 ^ n % 256]
  | 0, v => by simp [leB]
  | n + 1, v => by
    rw [leB, leB_snoc n, leB, List.cons_append, Int.pow_succ, Int.mul_comm, ← Int.ediv_ediv_of_nonneg (by decide)]
theorem wrap_u8_mod (x : Int) : IntKind.u8.wrap x = x % 256 := by simp [IntKind.wrap, IntKind.bits, IntKind.signed]

theorem set_append {xs : List Int} {m : Nat} (h : 0 < m) (v : Int) : (xs ++ List.replicate m 0).set xs.length v = xs ++ [v] ++ List.replicate (m - 1) 0 := by
  obtain ⟨k, rfl⟩ : ∃ k, m = k + 1 := ⟨m - 1, by omega⟩
  rw [List.set_append_right _ _ (Nat.le_refl _), Nat.sub_self, List.replicate_succ]
  simp

theorem little_step (v n i : Int) (h0 : 0 ≤ i) (h1 : i < n) (hn : n ≤ 8) :
    (leB v i.toNat ++ List.replicate (n - i).toNat 0).set i.toNat (IntKind.wrap .u8 (v / 2 ^ (min (8 * i).toNat 64))) = leB v (i + 1).toNat ++ List.replicate (n - (i + 1)).toNat 0 := by
  have e1 : min ((8 * i).toNat) 64 = 8 * i.toNat := by omega
  have e2 : (i + 1).toNat = i.toNat + 1 := by omega
  have e3 : (n - (i + 1)).toNat = (n - i).toNat - 1 := by omega
  have h := set_append (xs := leB v i.toNat) (m := (n - i).toNat) (by omega) (IntKind.wrap .u8 (v / 2 ^ (min (8 * i).toNat 64)))
  rw [leB_len] at h
  rw [h, e1, e2, e3, leB_snoc, wrap_u8_mod, ← pow256]

theorem rev_set {xs : List Int} {m : Nat} (h : 0 < m) (v : Int) : (List.replicate m 0 ++ xs).set (m - 1) v = List.replicate (m - 1) 0 ++ (v :: xs) := by
  obtain ⟨k, rfl⟩ : ∃ k, m = k + 1 := ⟨m - 1, by omega⟩
  rw [List.replicate_succ', List.append_assoc, Nat.add_sub_cancel, List.set_append_right _ _ (by simp)]
  simp

theorem big_step (v n i : Int) (h0 : 0 ≤ i) (h1 : i < n) (hn : n ≤ 8) :
    (List.replicate (n - i).toNat 0 ++ (leB v i.toNat).reverse).set (n - 1 - i).toNat (IntKind.wrap .u8 (v / 2 ^ (min (8 * i).toNat 64))) = List.replicate (n - (i + 1)).toNat 0 ++ (leB v (i + 1).toNat).reverse := by
  have e1 : min ((8 * i).toNat) 64 = 8 * i.toNat := by omega
  have e2 : (i + 1).toNat = i.toNat + 1 := by omega
  have e3 : (n - (i + 1)).toNat = (n - i).toNat - 1 := by omega
  have e4 : (n - 1 - i).toNat = (n - i).toNat - 1 := by omega
  rw [e4, rev_set (by omega), e1, e2, e3, leB_snoc, wrap_u8_mod, ← pow256, List.reverse_append]
  rfl

theorem take_eq_succ {xs ys : List Int} {i : Nat} (hl : xs.length = ys.length) (hi : i < xs.length) : xs.take (i + 1) = ys.take (i + 1) ↔ xs.take i = ys.take i ∧ xs.getD i 0 = ys.getD i 0 := by
  have hi' : i < ys.length := by omega
  rw [List.take_succ_eq_append_getElem hi, List.take_succ_eq_append_getElem hi', List.getD_eq_getElem?_getD, List.getD_eq_getElem?_getD, List.getElem?_eq_getElem hi, List.getElem?_eq_getElem hi']
  constructor
  · intro h
    have := List.append_inj h (by simp; omega)
    simpa using this
  · rintro ⟨h1, h2⟩
    simp at h2
    rw [h1, h2]
theorem eq_of_take {xs ys : List Int} {i : Nat} (hl : xs.length = ys.length) (hi : xs.length ≤ i) (h : xs.take i = ys.take i) : xs = ys := by
  rwa [List.take_of_length_le hi, List.take_of_length_le (by omega)] at h
theorem ne_of_getD {xs ys : List Int} {i : Nat} (h : xs.getD i 0 ≠ ys.getD i 0) : xs ≠ ys := fun e => h (by rw [e])
theorem or_xor_zero (d x y : Int) (hd : 0 ≤ d ∧ d < 256) (hx : 0 ≤ x ∧ x < 256) (hy : 0 ≤ y ∧ y < 256) : fits .u8 (bits2 .or .u8 d (bits2 .xor .u8 x y)) ∧ (bits2 .or .u8 d (bits2 .xor .u8 x y) = 0 ↔ d = 0 ∧ x = y) := by
  obtain ⟨a, rfl⟩ := Int.eq_ofNat_of_zero_le hd.1
  obtain ⟨b, rfl⟩ := Int.eq_ofNat_of_zero_le hx.1
  obtain ⟨c, rfl⟩ := Int.eq_ofNat_of_zero_le hy.1
  have h1 : b ^^^ c < 2 ^ 8 := Nat.xor_lt_two_pow (by omega) (by omega)
  have h2 : a ||| (b ^^^ c) < 2 ^ 8 := Nat.or_lt_two_pow (by omega) h1
  rw [bits_xor .u8 rfl _ _ (by simp only [IntKind.bits]; omega) (by simp only [IntKind.bits]; omega), Int.toNat_natCast, Int.toNat_natCast]
  rw [bits_or .u8 rfl _ _ (by simp only [IntKind.bits]; omega) (by simp only [IntKind.bits]; omega), Int.toNat_natCast, Int.toNat_natCast]
  refine ⟨by simp only [fits]; omega, ?_⟩
  constructor
  · intro h
    have h3 : a ||| (b ^^^ c) = 0 := by omega
    obtain ⟨h4, h5⟩ := Nat.or_eq_zero_iff.1 h3
    have h6 : b = c := by
      have := congrArg (· ^^^ c) h5
      simpa [Nat.xor_assoc] using this
    exact ⟨by omega, by rw [h6]⟩
  · rintro ⟨h3, h4⟩
    obtain rfl : a = 0 := by omega
    obtain rfl : b = c := by omega
    simp

abbrev digits : ByteArray := ⟨#[48, 49, 50, 51, 52, 53, 54, 55, 56, 57, 97, 98, 99, 100, 101, 102]⟩
def hd (n : Int) : Int := (sb digits).getD n.toNat 0
def hexl (xs : List Int) : List Int := xs.flatMap fun c => [hd (c / 16), hd (c % 16)]
theorem strOfNums_inj {xs ys : List Int} (hx : In .u8 xs) (hy : In .u8 ys) (h : strOfNums xs = strOfNums ys) : xs = ys := by
  have h1 : sb (strOfNums xs) = sb (strOfNums ys) := by rw [h]
  have key : ∀ {zs : List Int}, In .u8 zs → sb (strOfNums zs) = zs := by
    intro zs hz
    unfold sb strOfNums
    simp only [List.map_map]
    conv => rhs; rw [← List.map_id zs]
    refine List.map_congr_left fun z hzm => ?_
    have := hz z hzm
    simp only [fits] at this
    simp only [Function.comp, id, UInt8.toNat_ofNat']
    omega
  rwa [key hx, key hy] at h1
theorem emod256 (v p : Int) (hp : 0 < p) : v % (256 * p) = v % 256 + 256 * (v / 256 % p) := by
  have h1 := Int.emod_add_mul_ediv v 256
  have h2 := Int.emod_add_mul_ediv (v / 256) p
  have h3 := Int.emod_nonneg (v / 256) (show p ≠ 0 by omega)
  have h4 := Int.emod_lt_of_pos (v / 256) hp
  have e : v = (v % 256 + 256 * (v / 256 % p)) + (256 * p) * (v / 256 / p) := by rw [Int.mul_assoc]; omega
  have h5 : v % 256 + 256 * (v / 256 % p) < 256 * p := by omega
  have h6 : 0 ≤ v % 256 + 256 * (v / 256 % p) := by omega
  calc v % (256 * p) = ((v % 256 + 256 * (v / 256 % p)) + (256 * p) * (v / 256 / p)) % (256 * p) := by rw [← e]
    _ = _ := by rw [Int.add_mul_emod_self_left, Int.emod_eq_of_lt h6 h5]
theorem leN_cons (a : Int) (t : List Int) (m : Nat) : leN (a :: t) (m + 1) = a + 256 * leN t m := by
  rw [leN_front]; rfl
theorem leN_leB : ∀ (n : Nat) (v : Int), leN (leB v n) n = v % 256 ^ n
  | 0, v => by simp [leN, Int.emod_one]
  | n + 1, v => by
    rw [leB, leN_cons, leN_leB n, Int.pow_succ, Int.mul_comm (256 ^ n), emod256 _ _ (pow_pos' n)]
theorem beN_rev : ∀ (n : Nat) (xs : List Int), xs.length = n → beN xs.reverse n = leN xs n
  | 0, _, _ => rfl
  | n + 1, xs, h => by
    obtain ⟨a, t, rfl⟩ : ∃ a t, xs = a :: t := by cases xs with
      | nil => cases h
      | cons a t => exact ⟨a, t, rfl⟩
    have ht : t.length = n := by simpa using h
    rw [leN_cons, List.reverse_cons, beN]
    have e1 : beN (t.reverse ++ [a]) n = beN t.reverse n := by
      have : ∀ k, k ≤ n → beN (t.reverse ++ [a]) k = beN t.reverse k := by
        intro k
        induction k with
        | zero => intro _; rfl
        | succ k ih =>
          intro hk
          rw [beN, beN, ih (by omega)]
          congr 1
          rw [List.getD_eq_getElem?_getD, List.getD_eq_getElem?_getD, List.getElem?_append_left (by simp; omega)]
      exact this n (Nat.le_refl _)
    have e2 : (t.reverse ++ [a]).getD n 0 = a := by
      rw [List.getD_eq_getElem?_getD, List.getElem?_append_right (by simp [ht])]; simp [ht]
    rw [e1, e2, beN_rev n t ht]
    omega
theorem put_get32 {v : Int} (h : fits .u32 v) : leN (leB v 4) 4 = v := by
  rw [leN_leB]; simp only [fits] at h; omega
theorem put_get64 {v : Int} (h : fits .u64 v) : leN (leB v 8) 8 = v := by
  rw [leN_leB]; simp only [fits] at h; omega
theorem put_getBig32 {v : Int} (h : fits .u32 v) : beN (leB v 4).reverse 4 = v := by
  rw [beN_rev _ _ (leB_len _ _)]; exact put_get32 h
theorem put_getBig64 {v : Int} (h : fits .u64 v) : beN (leB v 8).reverse 8 = v := by
  rw [beN_rev _ _ (leB_len _ _)]; exact put_get64 h
theorem leB_add : ∀ (m n : Nat) (v : Int), leB v (m + n) = leB v m ++ leB (v / 256 ^ m) n
  | 0, n, v => by simp [leB]
  | m + 1, n, v => by
    rw [show m + 1 + n = (m + n) + 1 by omega, leB, leB_add m n, leB, List.cons_append, Int.pow_succ, Int.mul_comm (256 ^ m), ← Int.ediv_ediv_of_nonneg (by decide)]
theorem leB_mod : ∀ (n : Nat) (v : Int), leB (v % 256 ^ n) n = leB v n
  | 0, _ => rfl
  | n + 1, v => by
    have hp := pow_pos' n
    rw [leB, leB, Int.pow_succ, Int.mul_comm (256 ^ n)]
    have h1 : v % (256 * 256 ^ n) % 256 = v % 256 := Int.emod_emod_of_dvd v ⟨256 ^ n, rfl⟩
    have h2 : v % (256 * 256 ^ n) / 256 = v / 256 % 256 ^ n := by
      rw [emod256 _ _ hp, Int.add_mul_ediv_left _ _ (by decide), Int.ediv_eq_zero_of_lt (Int.emod_nonneg _ (by decide)) (Int.emod_lt_of_pos _ (by decide)), Int.zero_add]
    rw [h1, h2, leB_mod n]
end Go.Proofs.Ytkehpipialmneaa.SL.W
