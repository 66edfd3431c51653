/- The code with a key: plain laws. -/
import Derived.Test.YtkehpipialmneaaHPure
import Derived.Test.YtkehpipialmneaaSLw
namespace Go.Proofs.Ytkehpipialmneaa.SL.M
set_option linter.unusedVariables false
set_option linter.unusedSimpArgs false
open Go Go.Proofs.Ytkehpipialmneaa.SL Go.Proofs.Ytkehpipialmneaa.SL.W Go.Proofs.Ytkehpipialmneaa.SL.C Go.Proofs.Ytkehpipialmneaa.SL.H

def fit (k : List Int) : List Int := if 64 < k.length then digest k else k
def pad64 (k : List Int) : List Int := k ++ List.replicate (64 - k.length) 0
def maskB (k : List Int) (x : Int) (n : Nat) : List Int := (List.range n).map fun i => bits2 .xor .u8 (k.getD i 0) x
def masked (k : List Int) (x : Int) : List Int := maskB (pad64 (fit k)) x 64
def hmac (k m : List Int) : List Int := digest (masked k 92 ++ digest (masked k 54 ++ m))
theorem hmac_len (k m : List Int) : (hmac k m).length = 32 := digest_len _
def rows (k info : List Int) : Nat → List Int
  | 0 => []
  | n + 1 => hmac k (rows k info n ++ info ++ [(IntKind.wrap .u8 ((n : Int) + 1))])
def long (k info : List Int) : Nat → List Int
  | 0 => []
  | n + 1 => long k info n ++ rows k info (n + 1)
theorem rows_len (k info : List Int) (n : Nat) : (rows k info (n + 1)).length = 32 := hmac_len _ _
theorem long_len (k info : List Int) : ∀ n, (long k info n).length = 32 * n
  | 0 => rfl
  | n + 1 => by rw [long, List.length_append, long_len k info n, rows_len]; omega
theorem long_pre (k info : List Int) : ∀ m n, m ≤ n → ∃ t, long k info n = long k info m ++ t
  | m, n, h => by
    obtain ⟨d, rfl⟩ : ∃ d, n = m + d := ⟨n - m, by omega⟩
    clear h
    induction d with
    | zero => exact ⟨[], by simp⟩
    | succ d ih =>
      obtain ⟨t, ht⟩ := ih
      exact ⟨t ++ rows k info (m + d + 1), by rw [← Nat.add_assoc, long, ht, List.append_assoc]⟩
def expand (k info : List Int) (n : Nat) : List Int := (long k info ((n + 31) / 32)).take n
theorem expand_pre {k info : List Int} {a b : Nat} (h : a ≤ b) : (expand k info b).take a = expand k info a := by
  obtain ⟨t, ht⟩ := long_pre k info ((a + 31) / 32) ((b + 31) / 32) (by omega)
  rw [expand, expand, List.take_take, Nat.min_eq_left h, ht, List.take_append_of_le_length (by rw [long_len]; omega)]
theorem begins {a b e f : Int} {x y z k info : List Int} (hy : f = 0 → y = expand k info b.toNat) (hf : f = 0) (hx : e = 0 → x = expand k info a.toNat) (he : e = 0) (hz : z = y.take a.toNat) (h0 : 0 ≤ a) (h : a ≤ b) : z = x := by
  rw [hz, hy hf, hx he, expand_pre (by omega)]
end Go.Proofs.Ytkehpipialmneaa.SL.M
