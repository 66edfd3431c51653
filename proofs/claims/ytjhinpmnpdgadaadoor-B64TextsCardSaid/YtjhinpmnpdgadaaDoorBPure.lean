/- Letters: plain laws. -/
import Derived.Test.YtjhinpmnpdgadaaDoorPPure
import Derived.Test.YtjhinpmnpdgadaaDoorSLzd
namespace Go.Proofs.YtjhinpmnpdgadaaDoor.SL.B
set_option linter.unusedVariables false
set_option linter.unusedSimpArgs false
open Go Go.Proofs.YtjhinpmnpdgadaaDoor.SL Go.Proofs.YtjhinpmnpdgadaaDoor.SL.W Go.Proofs.YtjhinpmnpdgadaaDoor.SL.Y

def LS : ByteArray := ⟨#[65, 66, 67, 68, 69, 70, 71, 72, 73, 74, 75, 76, 77, 78, 79, 80, 81, 82, 83, 84, 85, 86, 87, 88, 89, 90, 97, 98, 99, 100, 101, 102, 103, 104, 105, 106, 107, 108, 109, 110, 111, 112, 113, 114, 115, 116, 117, 118, 119, 120, 121, 122, 48, 49, 50, 51, 52, 53, 54, 55, 56, 57, 43, 47]⟩
def ltr (v : Int) : Int := (sb LS).getD v.toNat 0
def dec (x : Int) : Int := Lib.indexByte LS.data.toList x.toNat.toUInt8
theorem ltr_bd (v : Int) : 0 ≤ ltr v ∧ ltr v < 256 := (In.sb LS).at_ _
theorem or_add (k : Nat) {a b : Int} (hk : k < 64) (ha : 0 ≤ a ∧ a < 18446744073709551616) (hm : a % 2 ^ k = 0) (hb : 0 ≤ b ∧ b < 2 ^ k) : bits2 .or .u64 a b = a + b := by
  have h64 : (2 : Int) ^ k ≤ 2 ^ 64 := by exact_mod_cast Nat.pow_le_pow_right (show 0 < 2 by decide) (show k ≤ 64 by omega)
  have e64 : (2 : Int) ^ 64 = 18446744073709551616 := by decide
  rw [bits_or .u64 rfl a b ha ⟨hb.1, by have : (2 : Int) ^ IntKind.bits .u64 = 18446744073709551616 := by decide
                                        omega⟩]
  obtain ⟨n, rfl⟩ := Int.eq_ofNat_of_zero_le ha.1
  obtain ⟨m, rfl⟩ := Int.eq_ofNat_of_zero_le hb.1
  have hn : n % 2 ^ k = 0 := by exact_mod_cast hm
  have hm2 : m < 2 ^ k := by exact_mod_cast hb.2
  have e : n = 2 ^ k * (n / 2 ^ k) := by have := Nat.div_add_mod n (2 ^ k); omega
  have h := Nat.two_pow_add_eq_or_of_lt hm2 (n / 2 ^ k)
  rw [← e] at h
  rw [Int.toNat_natCast, Int.toNat_natCast, ← h]
  rfl
theorem and_mod (k : Nat) {a m : Int} (hk : m = 2 ^ k - 1) (hk2 : k < 64) (ha : 0 ≤ a ∧ a < 18446744073709551616) : bits2 .and .u64 a m = a % (m + 1) := by
  have h64 : (2 : Int) ^ k ≤ 2 ^ 64 := by exact_mod_cast Nat.pow_le_pow_right (show 0 < 2 by decide) (show k ≤ 64 by omega)
  have hp : (0 : Int) < 2 ^ k := Int.pow_pos (by decide)
  have e64 : (2 : Int) ^ 64 = 18446744073709551616 := by decide
  have eb : (2 : Int) ^ IntKind.bits .u64 = 18446744073709551616 := by decide
  rw [bits_and .u64 rfl a m ha ⟨by omega, by omega⟩]
  obtain ⟨n, rfl⟩ := Int.eq_ofNat_of_zero_le ha.1
  have em : m.toNat = 2 ^ k - 1 := by
    have : ((2 ^ k - 1 : Nat) : Int) = 2 ^ k - 1 := by
      have h1 : 1 ≤ 2 ^ k := Nat.one_le_two_pow
      push_cast [h1]
      rfl
    omega
  rw [em, Int.toNat_natCast, Nat.and_two_pow_sub_one_eq_mod, hk]
  push_cast
  congr 1
  omega
/-! ### Text -/
def encC (cs : List Int) : List Int :=
  [ltr ((cs.getD 0 0 * 65536 + cs.getD 1 0 * 256 + cs.getD 2 0) / 262144), ltr ((cs.getD 0 0 * 65536 + cs.getD 1 0 * 256 + cs.getD 2 0) / 4096 % 64),
   if 1 < cs.length then ltr ((cs.getD 0 0 * 65536 + cs.getD 1 0 * 256 + cs.getD 2 0) / 64 % 64) else 61, if 2 < cs.length then ltr ((cs.getD 0 0 * 65536 + cs.getD 1 0 * 256 + cs.getD 2 0) % 64) else 61]
def encN (xs : List Int) : Nat → List Int
  | 0 => []
  | i + 1 => encN xs i ++ encC (chunk 3 xs i)
def enc (xs : List Int) : List Int := encN xs ((xs.length + 2) / 3)
theorem encC_len (cs : List Int) : (encC cs).length = 4 := rfl
theorem encN_len (xs : List Int) : ∀ n, (encN xs n).length = 4 * n
  | 0 => rfl
  | n + 1 => by rw [encN, List.length_append, encN_len, encC_len]; omega
theorem encC_in (cs : List Int) : In .u8 (encC cs) := by
  refine In.cons (ltr_bd _) (In.cons (ltr_bd _) (In.cons ?_ (In.cons ?_ (In.nil _))))
  · split
    · exact ltr_bd _
    · exact ⟨by decide, by decide⟩
  · split
    · exact ltr_bd _
    · exact ⟨by decide, by decide⟩
theorem encN_in (xs : List Int) : ∀ n, In .u8 (encN xs n)
  | 0 => In.nil _
  | n + 1 => (encN_in xs n).append (encC_in _)
theorem letters4 {v V : Int} (h : v = V) (h0 : 0 ≤ V ∧ V < 16777216) : ([(sb LS).getD (v / 2 ^ 18).toNat 0, (sb LS).getD (bits2 .and .u64 (v / 2 ^ 12) 63).toNat 0, (sb LS).getD (bits2 .and .u64 (v / 2 ^ 6) 63).toNat 0, (sb LS).getD (bits2 .and .u64 v 63).toNat 0] : List Int) = [ltr (V / 262144), ltr (V / 4096 % 64), ltr (V / 64 % 64), ltr (V % 64)] := by
  subst h
  rw [and_mod 6 (by decide) (by decide) (show 0 ≤ v / 2 ^ 12 ∧ v / 2 ^ 12 < 18446744073709551616 by omega), and_mod 6 (by decide) (by decide) (show 0 ≤ v / 2 ^ 6 ∧ v / 2 ^ 6 < 18446744073709551616 by omega), and_mod 6 (by decide) (by decide) (show 0 ≤ v ∧ v < 18446744073709551616 by omega)]
  rfl
theorem enc_1 {cs : List Int} {v : Int} (hl : cs.length = 1) (hi : In .u8 cs) (hv_ : v = cs.getD (0 : Int).toNat 0 * 65536) : ((([(sb LS).getD (v / 2 ^ 18).toNat 0, (sb LS).getD (bits2 .and .u64 (v / 2 ^ 12) 63).toNat 0, (sb LS).getD (bits2 .and .u64 (v / 2 ^ 6) 63).toNat 0, (sb LS).getD (bits2 .and .u64 v 63).toNat 0] : List Int).set (2 : Int).toNat 61).set (3 : Int).toNat 61) = encC cs := by
  have hv : v = cs.getD 0 0 * 65536 := hv_
  have h0 : 0 ≤ cs.getD 0 0 ∧ cs.getD 0 0 < 256 := hi.at_ 0
  rw [letters4 (V := cs.getD 0 0 * 65536 + cs.getD 1 0 * 256 + cs.getD 2 0) (by rw [getD_ge cs 1 (by omega), getD_ge cs 2 (by omega)]; omega) (by rw [getD_ge cs 1 (by omega), getD_ge cs 2 (by omega)]; omega), encC, if_neg (by omega), if_neg (by omega)]
  rfl
theorem enc_2 {cs : List Int} {v : Int} (hl : cs.length = 2) (hi : In .u8 cs) (hv_ : v = cs.getD (0 : Int).toNat 0 * 65536 + cs.getD (1 : Int).toNat 0 * 256) : (([(sb LS).getD (v / 2 ^ 18).toNat 0, (sb LS).getD (bits2 .and .u64 (v / 2 ^ 12) 63).toNat 0, (sb LS).getD (bits2 .and .u64 (v / 2 ^ 6) 63).toNat 0, (sb LS).getD (bits2 .and .u64 v 63).toNat 0] : List Int).set (3 : Int).toNat 61) = encC cs := by
  have hv : v = cs.getD 0 0 * 65536 + cs.getD 1 0 * 256 := hv_
  have h0 : 0 ≤ cs.getD 0 0 ∧ cs.getD 0 0 < 256 := hi.at_ 0
  have h1 : 0 ≤ cs.getD 1 0 ∧ cs.getD 1 0 < 256 := hi.at_ 1
  rw [letters4 (V := cs.getD 0 0 * 65536 + cs.getD 1 0 * 256 + cs.getD 2 0) (by rw [getD_ge cs 2 (by omega)]; omega) (by rw [getD_ge cs 2 (by omega)]; omega), encC, if_pos (by omega), if_neg (by omega)]
  rfl
theorem enc_3 {cs : List Int} {v : Int} (hl : cs.length = 3) (hi : In .u8 cs) (hv_ : v = cs.getD (0 : Int).toNat 0 * 65536 + cs.getD (1 : Int).toNat 0 * 256 + cs.getD (2 : Int).toNat 0) : ([(sb LS).getD (v / 2 ^ 18).toNat 0, (sb LS).getD (bits2 .and .u64 (v / 2 ^ 12) 63).toNat 0, (sb LS).getD (bits2 .and .u64 (v / 2 ^ 6) 63).toNat 0, (sb LS).getD (bits2 .and .u64 v 63).toNat 0] : List Int) = encC cs := by
  have hv : v = cs.getD 0 0 * 65536 + cs.getD 1 0 * 256 + cs.getD 2 0 := hv_
  have h0 : 0 ≤ cs.getD 0 0 ∧ cs.getD 0 0 < 256 := hi.at_ 0
  have h1 : 0 ≤ cs.getD 1 0 ∧ cs.getD 1 0 < 256 := hi.at_ 1
  have h2 : 0 ≤ cs.getD 2 0 ∧ cs.getD 2 0 < 256 := hi.at_ 2
  rw [letters4 hv (by omega), encC, if_pos (by omega), if_pos (by omega)]
theorem enc_app {xs os q : List Int} {i : Nat} (h : os = encN xs i) (hq : q = encC (chunk 3 xs i)) : os ++ q = encN xs (i + 1) := by rw [h, hq]; rfl
/-! ### Bytes -/
def trimN (xs : List Int) : Nat → Nat
  | 0 => 0
  | k + 1 => if xs.getD k 0 = 61 then trimN xs k else k + 1
theorem trimN_le (xs : List Int) : ∀ k, trimN xs k ≤ k
  | 0 => Nat.le_refl _
  | k + 1 => by
    rw [trimN]
    split
    · have := trimN_le xs k; omega
    · exact Nat.le_refl _
theorem sb_ext (s : ByteArray) (a b : Nat) : sb (ByteArray.extract s a b) = ((sb s).drop a).take (b - a) := by
  simp only [sb, ByteArray.data_extract, Array.toList_extract, List.extract_eq_take_drop, List.map_take, List.map_drop]
theorem trim_step {s r : ByteArray} {k : Nat} (hr : sb r = (sb s).take r.size) (hle : r.size ≤ s.size) (ht : trimN (sb s) (sb s).length = trimN (sb s) r.size) (hk : k + 1 = r.size) (hx : (sb r).getD k 0 = 61) :
    (ByteArray.extract r 0 k).size = k ∧ sb (ByteArray.extract r 0 k) = (sb s).take k ∧ trimN (sb s) (sb s).length = trimN (sb s) k := by
  refine ⟨by rw [ByteArray.size_extract]; omega, ?_, ?_⟩
  · rw [sb_ext, hr, List.drop_zero, Nat.sub_zero, List.take_take, Nat.min_eq_left (by omega)]
  · rw [ht, ← hk, trimN, if_pos]
    rw [hr] at hx
    rwa [List.getD_eq_getElem?_getD, List.getElem?_take, if_pos (by omega), ← List.getD_eq_getElem?_getD] at hx
theorem trim_end {s r : ByteArray} (hr : sb r = (sb s).take r.size) (ht : trimN (sb s) (sb s).length = trimN (sb s) r.size) (hx : r.size = 0 ∨ ¬ (sb r).getD (r.size - 1) 0 = 61) : r.size = trimN (sb s) (sb s).length := by
  rw [ht]
  rcases Nat.eq_zero_or_pos r.size with h0 | h0
  · rw [h0]; rfl
  · obtain ⟨k, hk⟩ : ∃ k, r.size = k + 1 := ⟨r.size - 1, by omega⟩
    have hx := hx.resolve_left (by omega)
    rw [hk, Nat.add_sub_cancel, hr, List.getD_eq_getElem?_getD, List.getElem?_take, if_pos (by omega), ← List.getD_eq_getElem?_getD] at hx
    rw [hk, trimN, if_neg hx]
theorem dec_all : ∀ a : Fin 256, -1 ≤ dec (a.val : Int) ∧ dec (a.val : Int) ≤ 63 := by decide +kernel
theorem dec_bd {x : Int} (h : 0 ≤ x ∧ x < 256) : -1 ≤ dec x ∧ dec x ≤ 63 := by
  have := dec_all ⟨x.toNat, by omega⟩
  simp only [Int.toNat_of_nonneg h.1] at this
  exact this
def vals (xs : List Int) : Nat → Int
  | 0 => 0
  | n + 1 => vals xs n * 64 + dec (xs.getD n 0)
def good (xs : List Int) : Nat → Bool
  | 0 => true
  | n + 1 => good xs n && decide (0 ≤ dec (xs.getD n 0))
def decG (xs : List Int) (m : Nat) : Option (List Int) :=
  if good xs m = true then (if m = 2 then (if vals xs m % 16 = 0 then some [vals xs m / 16 % 256] else none) else if m = 3 then (if vals xs m % 4 = 0 then some [vals xs m / 1024 % 256, vals xs m / 4 % 256] else none) else some [vals xs m / 65536 % 256, vals xs m / 256 % 256, vals xs m % 256]) else none
theorem good_mono {xs : List Int} {i : Nat} (h : good xs i = false) : ∀ d, good xs (i + d) = false
  | 0 => h
  | d + 1 => by rw [← Nat.add_assoc, good, good_mono h d]; rfl
theorem decG_bad {xs : List Int} {i m : Nat} (hi : i < m) (h : dec (xs.getD i 0) < 0) : decG xs m = none := by
  have h1 : good xs (i + 1) = false := by rw [good, decide_eq_false (by omega), Bool.and_false]
  have h2 := good_mono h1 (m - (i + 1))
  rw [show i + 1 + (m - (i + 1)) = m by omega] at h2
  rw [decG, if_neg (by rw [h2]; decide)]
theorem wrap8 (x : Int) : IntKind.wrap .u8 x = x % 256 := by simp [IntKind.wrap, IntKind.bits, IntKind.signed]
theorem decG_2 {xs : List Int} {v : Int} {b : Bool} (hg : good xs 2 = true) (hv : v = vals xs 2) (hb : b = decide (v % 16 = 0)) : decG xs 2 = if b = true then some [IntKind.wrap .u8 (v / 2 ^ 4)] else none := by
  rw [decG, if_pos hg, if_pos rfl, ← hv, hb, wrap8, show (2 : Int) ^ 4 = 16 by decide]
  by_cases h : v % 16 = 0 <;> simp [h]
theorem decG_3 {xs : List Int} {v : Int} {b : Bool} (hg : good xs 3 = true) (hv : v = vals xs 3) (hb : b = decide (v % 4 = 0)) : decG xs 3 = if b = true then some [IntKind.wrap .u8 (v / 2 ^ 10), IntKind.wrap .u8 (v / 2 ^ 2)] else none := by
  rw [decG, if_pos hg, if_neg (by decide), if_pos rfl, ← hv, hb, wrap8, wrap8, show (2 : Int) ^ 10 = 1024 by decide, show (2 : Int) ^ 2 = 4 by decide]
  by_cases h : v % 4 = 0 <;> simp [h]
theorem decG_4 {xs : List Int} {v : Int} (hg : good xs 4 = true) (hv : v = vals xs 4) : decG xs 4 = some [IntKind.wrap .u8 (v / 2 ^ 16), IntKind.wrap .u8 (v / 2 ^ 8), IntKind.wrap .u8 v] := by
  rw [decG, if_pos hg, if_neg (by decide), if_neg (by decide), ← hv, wrap8, wrap8, wrap8, show (2 : Int) ^ 16 = 65536 by decide, show (2 : Int) ^ 8 = 256 by decide]
def grp (xs : List Int) (j : Nat) : Option (List Int) :=
  if (if 4 * j + 4 = xs.length then trimN ((xs.drop (4 * j)).take 4) 4 else 4) < 2 then none else decG ((xs.drop (4 * j)).take 4) (if 4 * j + 4 = xs.length then trimN ((xs.drop (4 * j)).take 4) 4 else 4)
def decB (xs : List Int) : Nat → Option (List Int)
  | 0 => some []
  | j + 1 => match decB xs j, grp xs j with
    | some o, some b => some (o ++ b)
    | _, _ => none
def bytesP (xs : List Int) : Option (List Int) := if xs.length % 4 = 0 then decB xs (xs.length / 4) else none
theorem decB_none {xs : List Int} {j : Nat} (h : decB xs j = none) : ∀ d, decB xs (j + d) = none
  | 0 => h
  | d + 1 => by rw [← Nat.add_assoc, decB, decB_none h d]
theorem bytes_stop {xs : List Int} {j : Nat} (h4 : xs.length % 4 = 0) (hj : 4 * j + 4 ≤ xs.length) (hg : grp xs j = none) : bytesP xs = none := by
  have h1 : decB xs (j + 1) = none := by
    rw [decB, hg]
    cases decB xs j <;> rfl
  have h2 := decB_none h1 (xs.length / 4 - (j + 1))
  rw [show j + 1 + (xs.length / 4 - (j + 1)) = xs.length / 4 by omega] at h2
  rw [bytesP, if_pos h4, h2]
theorem grp_last {xs g : List Int} {j m : Nat} (hg : g = (xs.drop (4 * j)).take 4) (hl : 4 * j + 4 = xs.length) (hm : m = trimN g 4) : grp xs j = if m < 2 then none else decG g m := by
  rw [grp, if_pos hl, ← hg, ← hm]
theorem grp_mid {xs g : List Int} {j : Nat} (hg : g = (xs.drop (4 * j)).take 4) (hl : ¬ 4 * j + 4 = xs.length) : grp xs j = decG g 4 := by
  rw [grp, if_neg hl, ← hg, if_neg (by decide)]
theorem decB_step {xs os zs : List Int} {j : Nat} (h : decB xs j = some os) (hg : grp xs j = some zs) : decB xs (j + 1) = some (os ++ zs) := by rw [decB, h, hg]
theorem cut_is {s s3 : ByteArray} {a : Int} (h3 : s3 = ByteArray.extract s a.toNat (a + 4).toNat) (ha : 0 ≤ a) (h4 : a % 4 = 0) : sb s3 = ((sb s).drop (4 * (a.toNat / 4))).take 4 := by
  rw [h3, sb_ext, show 4 * (a.toNat / 4) = a.toNat by omega, show (a + 4).toNat - a.toNat = 4 by omega]
theorem cut_size {s s3 : ByteArray} {a : Int} (h3 : s3 = ByteArray.extract s a.toNat (a + 4).toNat) (ha : 0 ≤ a) (hl : a + 4 ≤ s.size) : s3.size = 4 := by
  rw [h3, ByteArray.size_extract]
  omega
theorem b_last {s s3 rz : ByteArray} {a : Int} (h3 : s3 = ByteArray.extract s a.toNat (a + 4).toNat) (hr : rz.size = trimN (sb s3) (sb s3).length) (ha : 0 ≤ a) (h4 : a % 4 = 0) (hl : a + 4 = s.size) : grp (sb s) (a.toNat / 4) = if rz.size < 2 then none else decG (sb s3) rz.size :=
  grp_last (cut_is h3 ha h4) (by rw [sb_len]; omega) (by rw [hr, sb_len, cut_size h3 ha (by omega)])
theorem b_mid {s s3 : ByteArray} {a : Int} (h3 : s3 = ByteArray.extract s a.toNat (a + 4).toNat) (ha : 0 ≤ a) (h4 : a % 4 = 0) (hl : ¬ a + 4 = s.size) : grp (sb s) (a.toNat / 4) = decG (sb s3) 4 :=
  grp_mid (cut_is h3 ha h4) (by rw [sb_len]; omega)
theorem b_stop {s : ByteArray} {a : Int} (hs : s.size % 4 = 0) (ha : 0 ≤ a) (h4 : a % 4 = 0) (hl : a + 4 ≤ s.size) (hg : grp (sb s) (a.toNat / 4) = none) : bytesP (sb s) = none :=
  bytes_stop (by rw [sb_len]; omega) (by rw [sb_len]; omega) hg
theorem b_end {s : ByteArray} {a : Int} {os : List Int} (hs : s.size % 4 = 0) (ha : ¬ a < s.size) (h1 : a ≤ s.size) (h : decB (sb s) (a.toNat / 4) = some os) : bytesP (sb s) = some os := by
  rw [bytesP, if_pos (by rw [sb_len]; omega), sb_len, show s.size / 4 = a.toNat / 4 by omega, h]
theorem not_t {b : Bool} (h : (!b) = true) : b = false := by cases b <;> simp_all
theorem not_f {b : Bool} (h : (!b) = false) : b = true := by cases b <;> simp_all
theorem none_of {o : Option (List Int)} {ok : Bool} {zs : List Int} (h : o = if ok = true then some zs else none) (hk : ok = false) : o = none := by rw [h, hk]; rfl
theorem some_of {o : Option (List Int)} {ok : Bool} {zs : List Int} (h : o = if ok = true then some zs else none) (hk : ok = true) : o = some zs := by rw [h, hk]; rfl
/-! ### Joined -/
theorem chunk_drop {xs : List Int} {q i : Nat} : chunk 3 (xs.drop (3 * q)) i = chunk 3 xs (q + i) := by
  rw [chunk, chunk, List.drop_drop, Nat.mul_add]
theorem chunk_take {xs : List Int} {q i : Nat} (h : i < q) : chunk 3 (xs.take (3 * q)) i = chunk 3 xs i := by
  rw [chunk, chunk, List.drop_take, List.take_take, Nat.min_eq_left (by omega)]
theorem encN_add (xs : List Int) (q : Nat) : ∀ r, encN xs (q + r) = encN xs q ++ encN (xs.drop (3 * q)) r
  | 0 => by rw [Nat.add_zero, encN, List.append_nil]
  | r + 1 => by rw [← Nat.add_assoc, encN, encN_add xs q r, encN, chunk_drop, List.append_assoc]
theorem encN_take {xs : List Int} {q : Nat} : ∀ r, r ≤ q → encN (xs.take (3 * q)) r = encN xs r
  | 0, _ => rfl
  | r + 1, h => by rw [encN, encN, encN_take r (by omega), chunk_take (by omega)]
theorem enc_len (xs : List Int) : (enc xs).length = 4 * ((xs.length + 2) / 3) := encN_len _ _
theorem enc_in (xs : List Int) : In .u8 (enc xs) := encN_in _ _
theorem strOfNums_app (a b : List Int) : strOfNums (a ++ b) = strOfNums a ++ strOfNums b := by
  apply ByteArray.ext
  simp [strOfNums]
theorem not_ok {o : Option (List Int)} {ok : Bool} {zs : List Int} (h : o = if ok = true then some zs else none) (hn : o = none) : ok = false := by
  cases ok with
  | false => rfl
  | true => rw [hn] at h; simp at h
end Go.Proofs.YtjhinpmnpdgadaaDoor.SL.B
