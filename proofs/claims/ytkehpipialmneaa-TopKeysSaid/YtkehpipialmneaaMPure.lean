/- The code with a key: plain laws. -/
import Derived.Test.YtkehpipialmneaaHPure
import Derived.Test.YtkehpipialmneaaSLu
namespace Go.Proofs.Ytkehpipialmneaa.SL.M
set_option linter.unusedVariables false
set_option linter.unusedSimpArgs false
open Go Go.Proofs.Ytkehpipialmneaa.SL Go.Proofs.Ytkehpipialmneaa.SL.W Go.Proofs.Ytkehpipialmneaa.SL.C Go.Proofs.Ytkehpipialmneaa.SL.H

/-- A key as 64 bytes. -/
def fit (k : List Int) : List Int := if 64 < k.length then digest k else k
def pad64 (k : List Int) : List Int := k ++ List.replicate (64 - k.length) 0
theorem pad64_len {k : List Int} (h : k.length ≤ 64) : (pad64 k).length = 64 := by simp [pad64]; omega
def maskB (k : List Int) (x : Int) (n : Nat) : List Int := (List.range n).map fun i => bits2 .xor .u8 (k.getD i 0) x
theorem maskB_len (k : List Int) (x : Int) (n : Nat) : (maskB k x n).length = n := by simp [maskB]
theorem maskB_succ (k : List Int) (x : Int) (n : Nat) : maskB k x (n + 1) = maskB k x n ++ [bits2 .xor .u8 (k.getD n 0) x] := by simp [maskB, List.range_succ]
def masked (k : List Int) (x : Int) : List Int := maskB (pad64 (fit k)) x 64
def hmac (k m : List Int) : List Int := digest (masked k 92 ++ digest (masked k 54 ++ m))
theorem hmac_len (k m : List Int) : (hmac k m).length = 32 := digest_len _
/-- Rounds of the longer key, n of them. -/
def rows (k info : List Int) : Nat → List Int
  | 0 => []
  | n + 1 => hmac k (rows k info n ++ info ++ [(IntKind.wrap .u8 ((n : Int) + 1))])
def long (k info : List Int) : Nat → List Int
  | 0 => []
  | n + 1 => long k info n ++ rows k info (n + 1)
theorem rows_len (k info : List Int) (n : Nat) : (rows k info (n + 1)).length = 32 := hmac_len _ _
theorem long_len (k info : List Int) : ∀ n, (long k info n).length = 32 * n
  | 0 => rfl
  | n + 1 => by rw [long, List.length_append, long_len k info n, rows_len]; omega
theorem long_pre (k info : List Int) : ∀ m n, m ≤ n → ∃ t, long k info n = long k info m ++ t
  | m, n, h => by
    obtain ⟨d, rfl⟩ : ∃ d, n = m + d := ⟨n - m, by omega⟩
    clear h
    induction d with
    | zero => exact ⟨[], by simp⟩
    | succ d ih =>
      obtain ⟨t, ht⟩ := ih
      exact ⟨t ++ rows k info (m + d + 1), by rw [← Nat.add_assoc, long, ht, List.append_assoc]⟩
/-- A key made n bytes long. -/
def expand (k info : List Int) (n : Nat) : List Int := (long k info ((n + 31) / 32)).take n
theorem expand_pre {k info : List Int} {a b : Nat} (h : a ≤ b) : (expand k info b).take a = expand k info a := by
  obtain ⟨t, ht⟩ := long_pre k info ((a + 31) / 32) ((b + 31) / 32) (by omega)
  rw [expand, expand, List.take_take, Nat.min_eq_left h, ht, List.take_append_of_le_length (by rw [long_len]; omega)]
theorem mask_start {k : List Int} (x : Int) (h : k.length ≤ 64) : putl (List.replicate 64 (0 : Int)) 0 (k.take 64) = maskB (pad64 k) x (0 : Int).toNat ++ (pad64 k).drop (0 : Int).toNat := by
  rw [List.take_of_length_le h, putl, List.drop_replicate]
  show k ++ List.replicate (64 - (0 + k.length)) 0 = k ++ List.replicate (64 - k.length) 0
  rw [Nat.zero_add]
theorem mask_step {P os : List Int} {x i : Int} (h0 : 0 ≤ i) (h1 : i.toNat < P.length) (h : os = maskB P x i.toNat ++ P.drop i.toNat) : os.set i.toNat (bits2 .xor .u8 (os.getD i.toNat 0) x) = maskB P x (i + 1).toNat ++ P.drop (i + 1).toNat := by
  have e : os.getD i.toNat 0 = P.getD i.toNat 0 := by
    rw [h, getD_app_r (by rw [maskB_len]; exact Nat.le_refl _), maskB_len, Nat.sub_self, List.getD_eq_getElem?_getD, List.getD_eq_getElem?_getD, List.getElem?_drop, Nat.add_zero]
  rw [e, h, List.set_append_right _ _ (by rw [maskB_len]; exact Nat.le_refl _), maskB_len, Nat.sub_self, List.drop_eq_getElem_cons h1, List.set_cons_zero, show (i + 1).toNat = i.toNat + 1 by omega, maskB_succ]
  simp
theorem mask_end {P os : List Int} {x i : Int} (h : os = maskB P x i.toNat ++ P.drop i.toNat) (hi : i = 64) (hP : P.length = 64) : os = maskB P x 64 := by
  subst hi
  rw [h, List.drop_of_length_le (by rw [hP]; decide), List.append_nil]
  rfl
theorem hmac_big {k m : List Int} (h : 64 < k.length) : digest (maskB (pad64 (digest k)) 92 64 ++ digest (maskB (pad64 (digest k)) 54 64 ++ m)) = hmac k m := by
  rw [hmac, masked, masked, fit, if_pos h]
theorem hmac_small {k m : List Int} (h : ¬ 64 < k.length) : digest (maskB (pad64 k) 92 64 ++ digest (maskB (pad64 k) 54 64 ++ m)) = hmac k m := by
  rw [hmac, masked, masked, fit, if_neg h]
theorem rows_step {k info last z : List Int} {i : Int} (h1 : 1 ≤ i) (hl : last = rows k info (i - 1).toNat) (hz : z = hmac k (last ++ (info ++ [IntKind.wrap .u8 i]))) : z = rows k info (i + 1 - 1).toNat := by
  rw [show (i + 1 - 1).toNat = (i - 1).toNat + 1 by omega, rows, ← hl, hz, show (((i - 1).toNat : Nat) : Int) + 1 = i by omega, List.append_assoc]
theorem long_step {k info out z : List Int} {i : Int} (h1 : 1 ≤ i) (ho : out = long k info (i - 1).toNat) (hz : z = rows k info (i + 1 - 1).toNat) : out ++ z = long k info (i + 1 - 1).toNat := by
  rw [show (i + 1 - 1).toNat = (i - 1).toNat + 1 by omega] at hz ⊢
  rw [long, ← ho, hz]
theorem long_end {k info out : List Int} {i n : Int} (ho : out = long k info (i - 1).toNat) (h0 : 0 ≤ n) (h1 : n ≤ out.length) (h2 : out.length < n + 32) : out.take n.toNat = expand k info n.toNat := by
  have hl := congrArg List.length ho
  rw [long_len] at hl
  rw [expand, ho, show (i - 1).toNat = (n.toNat + 31) / 32 by omega]
/-- What a longer key's answer says. -/
abbrev Said (n e : Int) (zs : List Int) : Prop := (0 ≤ n ∧ n ≤ 8160 ∧ e = 0 ∧ zs.length = n.toNat) ∨ (¬ (0 ≤ n ∧ n ≤ 8160) ∧ e = 1 ∧ zs.length = 0)
theorem begins {a b e f : Int} {x y z k info : List Int} (hy : f = 0 → y = expand k info b.toNat) (hf : f = 0) (hx : e = 0 → x = expand k info a.toNat) (he : e = 0) (hz : z = y.take a.toNat) (h0 : 0 ≤ a) (h : a ≤ b) : z = x := by
  rw [hz, hy hf, hx he, expand_pre (by omega)]
theorem derive_of {e : Int} {z x h info : List Int} {n : Nat} (hx : x = h) (h2 : e = 0 → z = expand x info n) : e = 0 → z = expand h info n := fun he => hx ▸ h2 he
end Go.Proofs.Ytkehpipialmneaa.SL.M
