/- The block of the cipher: plain laws. -/
import Derived.Test.YtkehpipialmneaaWPure
import Derived.Test.YtkehpipialmneaaSLq
namespace Go.Proofs.Ytkehpipialmneaa.SL.C
set_option linter.unusedVariables false
set_option linter.unusedSimpArgs false
open Go Go.Proofs.Ytkehpipialmneaa.SL Go.Proofs.Ytkehpipialmneaa.SL.W

def rotl (x k : Int) : Int := bits2 .or .u32 (IntKind.wrap .u32 (x * 2 ^ (min k.toNat 32))) (x / 2 ^ (min (32 - k).toNat 32))
def add32 (x y : Int) : Int := IntKind.wrap .u32 (x + y)
def half (xs : List Int) (a b d by_ : Int) : List Int :=
  (xs.set a.toNat (add32 (xs.getD a.toNat 0) (xs.getD b.toNat 0))).set d.toNat
    (rotl (bits2 .xor .u32 ((xs.set a.toNat (add32 (xs.getD a.toNat 0) (xs.getD b.toNat 0))).getD d.toNat 0) ((xs.set a.toNat (add32 (xs.getD a.toNat 0) (xs.getD b.toNat 0))).getD a.toNat 0)) by_)
theorem half_len (xs : List Int) (a b d by_ : Int) : (half xs a b d by_).length = xs.length := by simp [half]
def quarter (xs : List Int) (a b c d : Int) : List Int := half (half (half (half xs a b d 16) c d b 12) a b d 8) c d b 7
theorem quarter_len (xs : List Int) (a b c d : Int) : (quarter xs a b c d).length = xs.length := by simp [quarter, half_len]
theorem and31 (k : Int) (h : 0 ≤ k ∧ k < 32) : bits2 .and .u64 k 31 = k := by
  obtain ⟨n, rfl⟩ := Int.eq_ofNat_of_zero_le h.1
  have key : ∀ n : Fin 32, bits2 .and .u64 (n.val : Int) 31 = (n.val : Int) := by decide +kernel
  exact key ⟨n, by omega⟩
def two (xs : List Int) : List Int :=
  quarter (quarter (quarter (quarter (quarter (quarter (quarter (quarter xs 0 4 8 12) 1 5 9 13) 2 6 10 14) 3 7 11 15) 0 5 10 15) 1 6 11 12) 2 7 8 13) 3 4 9 14
theorem two_len (xs : List Int) : (two xs).length = xs.length := by simp [two, quarter_len]
def rounds (xs : List Int) : Nat → List Int
  | 0 => xs
  | n + 1 => two (rounds xs n)
def kw (xs : List Int) (n : Nat) : List Int := (List.range n).map fun i => leN (xs.drop (4 * i)) 4
def begin_ (key nonce : List Int) (counter : Int) : List Int :=
  [1634760805, 857760878, 2036477234, 1797285236] ++ kw key 8 ++ [counter] ++ kw nonce 3
def outs (ys xs : List Int) : Nat → List Int
  | 0 => []
  | n + 1 => outs ys xs n ++ leB (add32 (ys.getD n 0) (xs.getD n 0)) 4
theorem outs_len (ys xs : List Int) : ∀ n, (outs ys xs n).length = 4 * n
  | 0 => rfl
  | n + 1 => by rw [outs, List.length_append, outs_len ys xs n, leB_len]; omega
theorem outs_in (ys xs : List Int) : ∀ n, In .u8 (outs ys xs n)
  | 0 => In.nil _
  | n + 1 => (outs_in ys xs n).append (leB_in _ _)
def block (key nonce : List Int) (counter : Int) : List Int := outs (rounds (begin_ key nonce counter) 10) (begin_ key nonce counter) 16
theorem block_len (key nonce : List Int) (counter : Int) : (block key nonce counter).length = 64 := outs_len _ _ _
def q4 (a b c d : Int) : Int × Int × Int × Int :=
  let a1 := add32 a b; let d1 := rotl (bits2 .xor .u32 d a1) 16; let c1 := add32 c d1; let b1 := rotl (bits2 .xor .u32 b c1) 12
  let a2 := add32 a1 b1; let d2 := rotl (bits2 .xor .u32 d1 a2) 8; let c2 := add32 c1 d2; let b2 := rotl (bits2 .xor .u32 b1 c2) 7
  (a2, b2, c2, d2)
theorem sixteen {P : List Int → Prop} (h : ∀ a b c d e f g i j k l m n o p q : Int, P [a, b, c, d, e, f, g, i, j, k, l, m, n, o, p, q]) (xs : List Int) (hl : xs.length = 16) : P xs := by
  match xs, hl with
  | [a, b, c, d, e, f, g, i, j, k, l, m, n, o, p, q], _ => exact h a b c d e f g i j k l m n o p q
def stream (key nonce : List Int) (n : Int) (i : Nat) : Int := (block key nonce (add32 n ((i / 64 : Nat) : Int))).getD (i % 64) 0
def xorP (key nonce : List Int) (n : Int) (b : List Int) (m : Nat) : List Int := (List.range m).map fun i => bits2 .xor .u8 (b.getD i 0) (stream key nonce n i)
theorem xorP_len (key nonce : List Int) (n : Int) (b : List Int) (m : Nat) : (xorP key nonce n b m).length = m := by simp [xorP]
theorem xorP_succ (key nonce : List Int) (n : Int) (b : List Int) (m : Nat) : xorP key nonce n b (m + 1) = xorP key nonce n b m ++ [bits2 .xor .u8 (b.getD m 0) (stream key nonce n m)] := by
  simp [xorP, List.range_succ]
theorem wrap32 (x : Int) : IntKind.wrap .u32 x = x % 4294967296 := by simp [IntKind.wrap, IntKind.bits, IntKind.signed]
theorem add32_add (n a b : Int) : add32 (add32 n a) b = add32 n (a + b) := by simp only [add32, wrap32]; omega
theorem add32_0 {n : Int} (h : fits .u32 n) : add32 n 0 = n := by simp only [fits] at h; simp only [add32, wrap32]; omega
theorem stream_at {key nonce : List Int} {n cn : Int} {q i : Nat} (hc : cn = add32 n q) (hi : i < 64) : (block key nonce cn).getD i 0 = stream key nonce n (64 * q + i) := by
  rw [stream, show (64 * q + i) / 64 = q by omega, show (64 * q + i) % 64 = i by omega, hc]
def kk (n : Nat) : List Int := (List.range n).map fun (j : Nat) => (j : Int)
theorem xor_twice {a b : Int} (ha : 0 ≤ a ∧ a < 256) (hb : 0 ≤ b ∧ b < 256) : bits2 .xor .u8 (bits2 .xor .u8 a b) b = a := by
  have e := bits_xor .u8 rfl a b ha hb
  have h1 : fits .u8 (bits2 .xor .u8 a b) := fits_bits2 _ _ _ _
  rw [bits_xor .u8 rfl _ _ h1 hb, e]
  rw [Int.toNat_natCast, Nat.xor_assoc, Nat.xor_self, Nat.xor_zero]
  omega
theorem xor_zero {b : Int} (hb : 0 ≤ b ∧ b < 256) : bits2 .xor .u8 0 b = b := by
  rw [bits_xor .u8 rfl 0 b ⟨by decide, by decide⟩ hb]
  simp
  omega
theorem stream_in (key nonce : List Int) (n : Int) (i : Nat) : 0 ≤ stream key nonce n i ∧ stream key nonce n i < 256 := (outs_in _ _ 16).at_ _
theorem xorP_getD (key nonce : List Int) (n : Int) (b : List Int) (m i : Nat) (h : i < m) : (xorP key nonce n b m).getD i 0 = bits2 .xor .u8 (b.getD i 0) (stream key nonce n i) := by
  simp [xorP, h]
theorem ext_getD {a b : List Int} (hl : a.length = b.length) (h : ∀ i, i < a.length → a.getD i 0 = b.getD i 0) : a = b := by
  apply List.ext_getElem hl
  intro i h1 h2
  have := h i h1
  rwa [List.getD_eq_getElem?_getD, List.getD_eq_getElem?_getD, List.getElem?_eq_getElem h1, List.getElem?_eq_getElem h2] at this
theorem xor_back {key nonce b : List Int} {n : Int} (hb : In .u8 b) : xorP key nonce n (xorP key nonce n b b.length) (xorP key nonce n b b.length).length = b := by
  refine ext_getD (by simp [xorP_len]) fun i hi => ?_
  rw [xorP_len, xorP_len] at hi
  rw [xorP_getD _ _ _ _ _ _ (by rw [xorP_len]; exact hi), xorP_getD _ _ _ _ _ _ hi]
  exact xor_twice (hb.at_ i) (stream_in _ _ _ _)
theorem getD_app_r {a b : List Int} {i : Nat} (h : a.length ≤ i) : (a ++ b).getD i 0 = b.getD (i - a.length) 0 := by rw [List.getD_eq_getElem?_getD, List.getD_eq_getElem?_getD, List.getElem?_append_right h]
end Go.Proofs.Ytkehpipialmneaa.SL.C
