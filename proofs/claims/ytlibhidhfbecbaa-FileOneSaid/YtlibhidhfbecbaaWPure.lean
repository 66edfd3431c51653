/- Numbers as bytes: plain laws. -/
import Derived.Test.YtlibhidhfbecbaaSLq
import Derived.Lib.Bytealg
namespace Go.Proofs.Ytlibhidhfbecbaa.SL.W
set_option linter.unusedVariables false
set_option linter.unusedSimpArgs false
open Go Go.Proofs.Ytlibhidhfbecbaa.SL

def leN (xs : List Int) : Nat → Int
  | 0 => 0
  | k + 1 => leN xs k + xs.getD k 0 * 256 ^ k
def leB (v : Int) : Nat → List Int
  | 0 => []
  | n + 1 => v % 256 :: leB (v / 256) n

theorem pow_pos' (n : Nat) : (0 : Int) < 256 ^ n := Int.pow_pos (by decide)

theorem leN_bd {xs : List Int} (hx : In .u8 xs) : ∀ k, 0 ≤ leN xs k ∧ leN xs k < 256 ^ k
  | 0 => by simp [leN]
  | k + 1 => by
    obtain ⟨h0, h1⟩ := leN_bd hx k
    have hb : 0 ≤ xs.getD k 0 ∧ xs.getD k 0 < 256 := hx.at_ k
    have hp := pow_pos' k
    have h2 : 0 ≤ xs.getD k 0 * 256 ^ k := Int.mul_nonneg hb.1 (Int.le_of_lt hp)
    have h3 : xs.getD k 0 * 256 ^ k ≤ 255 * 256 ^ k := Int.mul_le_mul_of_nonneg_right (by omega) (Int.le_of_lt hp)
    simp only [leN, Int.pow_succ]
    omega

theorem pow_le {m n : Nat} (h : m ≤ n) : (256 : Int) ^ m ≤ 256 ^ n := by
  have h1 := Nat.pow_le_pow_right (n := 256) (by decide) h
  have e : ∀ k, (256 : Int) ^ k = ((256 ^ k : Nat) : Int) := fun k => (Int.natCast_pow 256 k).symm
  rw [e, e]
  exact Int.ofNat_le.2 h1
theorem nat_lt {a : Int} {n : Nat} (h : 0 ≤ a ∧ a < 2 ^ n) : a.toNat < 2 ^ n := by
  obtain ⟨x, rfl⟩ := Int.eq_ofNat_of_zero_le h.1
  rw [Int.toNat_natCast]
  exact_mod_cast h.2

theorem toNat_ofInt (n : Nat) (a : Int) (h0 : 0 ≤ a) (h1 : a < 2 ^ n) : (BitVec.ofInt n a).toNat = a.toNat := by
  rw [BitVec.toNat_ofInt]
  rw [Int.emod_eq_of_lt h0 (by rw [Int.natCast_pow]; exact h1)]

theorem bits_or (k : IntKind) (hk : k.signed = false) (a b : Int) (ha : 0 ≤ a ∧ a < 2 ^ k.bits) (hb : 0 ≤ b ∧ b < 2 ^ k.bits) : bits2 .or k a b = ((a.toNat ||| b.toNat : Nat) : Int) := by
  simp only [bits2, BitVec.toNat_or, toNat_ofInt _ _ ha.1 ha.2, toNat_ofInt _ _ hb.1 hb.2]
  have h : a.toNat ||| b.toNat < 2 ^ k.bits := Nat.or_lt_two_pow (nat_lt ha) (nat_lt hb)
  unfold IntKind.wrap
  simp only [hk, Bool.false_and, Bool.false_eq_true, if_false]
  rw [Int.emod_eq_of_lt (by omega) (by exact_mod_cast h)]
theorem or_add (a b : Int) (i : Nat) (ha : 0 ≤ a ∧ a < 2 ^ i) (hb : 0 ≤ b) : ((a.toNat ||| (b * 2 ^ i).toNat : Nat) : Int) = a + b * 2 ^ i := by
  obtain ⟨x, rfl⟩ := Int.eq_ofNat_of_zero_le ha.1
  obtain ⟨y, rfl⟩ := Int.eq_ofNat_of_zero_le hb
  have hx : x < 2 ^ i := by have := ha.2; exact_mod_cast this
  have e : ((y : Int) * 2 ^ i).toNat = y <<< i := by
    rw [Nat.shiftLeft_eq]
    have : ((y : Int) * 2 ^ i) = ((y * 2 ^ i : Nat) : Int) := by push_cast; rfl
    rw [this, Int.toNat_natCast]
  rw [Int.toNat_natCast, e, Nat.or_comm, ← Nat.shiftLeft_add_eq_or_of_lt hx, Nat.shiftLeft_eq]
  push_cast
  omega

theorem pow256 (k : Nat) : (256 : Int) ^ k = 2 ^ (8 * k) := by rw [Int.pow_mul]; rfl

theorem get_step {xs : List Int} (hx : In .u8 xs) (i : Int) (h0 : 0 ≤ i) (h8 : i < 8) : bits2 .or .u64 (leN xs i.toNat) (IntKind.wrap .u64 (xs.getD i.toNat 0 * 2 ^ (min (8 * i).toNat 64))) = leN xs (i + 1).toNat := by
  obtain ⟨n, rfl⟩ := Int.eq_ofNat_of_zero_le h0
  have hb : 0 ≤ xs.getD n 0 ∧ xs.getD n 0 < 256 := hx.at_ n
  have hl := leN_bd hx n
  have e1 : min ((8 * (n : Int)).toNat) 64 = 8 * n := by omega
  have e2 : ((n : Int) + 1).toNat = n + 1 := by omega
  have hp := pow_pos' n
  have hn : n ≤ 7 := by omega
  have hpl : (256 : Int) ^ n ≤ 256 ^ 7 := pow_le hn
  have hlt : xs.getD n 0 * 256 ^ n ≤ 255 * 256 ^ n := Int.mul_le_mul_of_nonneg_right (by omega) (Int.le_of_lt hp)
  have hnn : 0 ≤ xs.getD n 0 * 256 ^ n := Int.mul_nonneg hb.1 (Int.le_of_lt hp)
  rw [Int.toNat_natCast, e1, e2, ← pow256, wrap_u64 _ hnn (by omega), bits_or .u64 rfl _ _ ⟨hl.1, by have := hl.2; simp only [IntKind.bits]; omega⟩ ⟨hnn, by simp only [IntKind.bits]; omega⟩]
  rw [pow256] at hl ⊢
  rw [or_add _ _ _ hl hb.1, leN, pow256]

theorem leN_front (xs : List Int) : ∀ m, leN xs (m + 1) = xs.getD 0 0 + 256 * leN (xs.drop 1) m
  | 0 => by simp [leN]
  | m + 1 => by
    have ih := leN_front xs m
    have hd : (xs.drop 1).getD m 0 = xs.getD (m + 1) 0 := by simp [List.getD_eq_getElem?_getD, Nat.add_comm 1 m]
    rw [leN, ih, leN, hd, Int.pow_succ]
    have : (xs.getD (m + 1) 0) * (256 ^ m * 256) = 256 * ((xs.getD (m + 1) 0) * 256 ^ m) := by rw [← Int.mul_assoc, Int.mul_comm]
    rw [this, Int.mul_add]
    omega

theorem leB_len : ∀ (n : Nat) (v : Int), (leB v n).length = n
  | 0, _ => rfl
  | n + 1, v => by simp [leB, leB_len n]
theorem leB_in : ∀ (n : Nat) (v : Int), In .u8 (leB v n)
  | 0, _ => In.nil _
  | n + 1, v => In.cons (by simp only [fits]; omega) (leB_in n _)
theorem leB_snoc : ∀ (n : Nat) (v : Int), leB v (n + 1) = leB v n ++ [v / 256 ^ n % 256]
  | 0, v => by simp [leB]
  | n + 1, v => by
    rw [leB, leB_snoc n, leB, List.cons_append, Int.pow_succ, Int.mul_comm, ← Int.ediv_ediv_of_nonneg (by decide)]
theorem wrap_u8_mod (x : Int) : IntKind.u8.wrap x = x % 256 := by simp [IntKind.wrap, IntKind.bits, IntKind.signed]

theorem set_append {xs : List Int} {m : Nat} (h : 0 < m) (v : Int) : (xs ++ List.replicate m 0).set xs.length v = xs ++ [v] ++ List.replicate (m - 1) 0 := by
  obtain ⟨k, rfl⟩ : ∃ k, m = k + 1 := ⟨m - 1, by omega⟩
  rw [List.set_append_right _ _ (Nat.le_refl _), Nat.sub_self, List.replicate_succ]
  simp

theorem little_step (v n i : Int) (h0 : 0 ≤ i) (h1 : i < n) (hn : n ≤ 8) :
    (leB v i.toNat ++ List.replicate (n - i).toNat 0).set i.toNat (IntKind.wrap .u8 (v / 2 ^ (min (8 * i).toNat 64))) = leB v (i + 1).toNat ++ List.replicate (n - (i + 1)).toNat 0 := by
  have e1 : min ((8 * i).toNat) 64 = 8 * i.toNat := by omega
  have e2 : (i + 1).toNat = i.toNat + 1 := by omega
  have e3 : (n - (i + 1)).toNat = (n - i).toNat - 1 := by omega
  have h := set_append (xs := leB v i.toNat) (m := (n - i).toNat) (by omega) (IntKind.wrap .u8 (v / 2 ^ (min (8 * i).toNat 64)))
  rw [leB_len] at h
  rw [h, e1, e2, e3, leB_snoc, wrap_u8_mod, ← pow256]

theorem take_eq_succ {xs ys : List Int} {i : Nat} (hl : xs.length = ys.length) (hi : i < xs.length) : xs.take (i + 1) = ys.take (i + 1) ↔ xs.take i = ys.take i ∧ xs.getD i 0 = ys.getD i 0 := by
  have hi' : i < ys.length := by omega
  rw [List.take_succ_eq_append_getElem hi, List.take_succ_eq_append_getElem hi', List.getD_eq_getElem?_getD, List.getD_eq_getElem?_getD, List.getElem?_eq_getElem hi, List.getElem?_eq_getElem hi']
  constructor
  · intro h
    have := List.append_inj h (by simp; omega)
    simpa using this
  · rintro ⟨h1, h2⟩
    simp at h2
    rw [h1, h2]
theorem eq_of_take {xs ys : List Int} {i : Nat} (hl : xs.length = ys.length) (hi : xs.length ≤ i) (h : xs.take i = ys.take i) : xs = ys := by
  rwa [List.take_of_length_le hi, List.take_of_length_le (by omega)] at h
theorem ne_of_getD {xs ys : List Int} {i : Nat} (h : xs.getD i 0 ≠ ys.getD i 0) : xs ≠ ys := fun e => h (by rw [e])
abbrev digits : ByteArray := ⟨#[48, 49, 50, 51, 52, 53, 54, 55, 56, 57, 97, 98, 99, 100, 101, 102]⟩
def hd (n : Int) : Int := (sb digits).getD n.toNat 0
def hexl (xs : List Int) : List Int := xs.flatMap fun c => [hd (c / 16), hd (c % 16)]
theorem sb_len (s : ByteArray) : (sb s).length = s.size := by rw [sb, List.length_map]; rfl

theorem strOfNums_inj {xs ys : List Int} (hx : In .u8 xs) (hy : In .u8 ys) (h : strOfNums xs = strOfNums ys) : xs = ys := by
  have h1 : sb (strOfNums xs) = sb (strOfNums ys) := by rw [h]
  have key : ∀ {zs : List Int}, In .u8 zs → sb (strOfNums zs) = zs := by
    intro zs hz
    unfold sb strOfNums
    simp only [List.map_map]
    conv => rhs; rw [← List.map_id zs]
    refine List.map_congr_left fun z hzm => ?_
    have := hz z hzm
    simp only [fits] at this
    simp only [Function.comp, id, UInt8.toNat_ofNat']
    omega
  rwa [key hx, key hy] at h1
theorem sb_str {zs : List Int} (hz : In .u8 zs) : sb (strOfNums zs) = zs := by
  unfold sb strOfNums
  simp only [List.map_map]
  conv => rhs; rw [← List.map_id zs]
  refine List.map_congr_left fun z hzm => ?_
  have := hz z hzm
  simp only [fits] at this
  simp only [Function.comp, id, UInt8.toNat_ofNat']
  omega
theorem emod256 (v p : Int) (hp : 0 < p) : v % (256 * p) = v % 256 + 256 * (v / 256 % p) := by
  have h1 := Int.emod_add_mul_ediv v 256
  have h2 := Int.emod_add_mul_ediv (v / 256) p
  have h3 := Int.emod_nonneg (v / 256) (show p ≠ 0 by omega)
  have h4 := Int.emod_lt_of_pos (v / 256) hp
  have e : v = (v % 256 + 256 * (v / 256 % p)) + (256 * p) * (v / 256 / p) := by rw [Int.mul_assoc]; omega
  have h5 : v % 256 + 256 * (v / 256 % p) < 256 * p := by omega
  have h6 : 0 ≤ v % 256 + 256 * (v / 256 % p) := by omega
  calc v % (256 * p) = ((v % 256 + 256 * (v / 256 % p)) + (256 * p) * (v / 256 / p)) % (256 * p) := by rw [← e]
    _ = _ := by rw [Int.add_mul_emod_self_left, Int.emod_eq_of_lt h6 h5]
theorem leN_cons (a : Int) (t : List Int) (m : Nat) : leN (a :: t) (m + 1) = a + 256 * leN t m := by
  rw [leN_front]; rfl
theorem leN_leB : ∀ (n : Nat) (v : Int), leN (leB v n) n = v % 256 ^ n
  | 0, v => by simp [leN, Int.emod_one]
  | n + 1, v => by
    rw [leB, leN_cons, leN_leB n, Int.pow_succ, Int.mul_comm (256 ^ n), emod256 _ _ (pow_pos' n)]
theorem put_get32 {v : Int} (h : fits .u32 v) : leN (leB v 4) 4 = v := by
  rw [leN_leB]; simp only [fits] at h; omega
end Go.Proofs.Ytlibhidhfbecbaa.SL.W
