/- The block of the cipher: plain laws. -/
import Derived.Test.YtkehpipialmneaaWPure
import Derived.Test.YtkehpipialmneaaSLo
namespace Go.Proofs.Ytkehpipialmneaa.SL.C
set_option linter.unusedVariables false
set_option linter.unusedSimpArgs false
open Go Go.Proofs.Ytkehpipialmneaa.SL Go.Proofs.Ytkehpipialmneaa.SL.W

/-- A word turned left by k bits. -/
def rotl (x k : Int) : Int := bits2 .or .u32 (IntKind.wrap .u32 (x * 2 ^ (min k.toNat 32))) (x / 2 ^ (min (32 - k).toNat 32))
def add32 (x y : Int) : Int := IntKind.wrap .u32 (x + y)
def half (xs : List Int) (a b d by_ : Int) : List Int :=
  (xs.set a.toNat (add32 (xs.getD a.toNat 0) (xs.getD b.toNat 0))).set d.toNat
    (rotl (bits2 .xor .u32 ((xs.set a.toNat (add32 (xs.getD a.toNat 0) (xs.getD b.toNat 0))).getD d.toNat 0) ((xs.set a.toNat (add32 (xs.getD a.toNat 0) (xs.getD b.toNat 0))).getD a.toNat 0)) by_)
theorem half_len (xs : List Int) (a b d by_ : Int) : (half xs a b d by_).length = xs.length := by simp [half]
def quarter (xs : List Int) (a b c d : Int) : List Int := half (half (half (half xs a b d 16) c d b 12) a b d 8) c d b 7
theorem quarter_len (xs : List Int) (a b c d : Int) : (quarter xs a b c d).length = xs.length := by simp [quarter, half_len]
theorem and31 (k : Int) (h : 0 ≤ k ∧ k < 32) : bits2 .and .u64 k 31 = k := by
  obtain ⟨n, rfl⟩ := Int.eq_ofNat_of_zero_le h.1
  have key : ∀ n : Fin 32, bits2 .and .u64 (n.val : Int) 31 = (n.val : Int) := by decide +kernel
  exact key ⟨n, by omega⟩
/-- Two rounds: the columns, then the diagonals. -/
def two (xs : List Int) : List Int :=
  quarter (quarter (quarter (quarter (quarter (quarter (quarter (quarter xs 0 4 8 12) 1 5 9 13) 2 6 10 14) 3 7 11 15) 0 5 10 15) 1 6 11 12) 2 7 8 13) 3 4 9 14
theorem two_len (xs : List Int) : (two xs).length = xs.length := by simp [two, quarter_len]
def rounds (xs : List Int) : Nat → List Int
  | 0 => xs
  | n + 1 => two (rounds xs n)
theorem rounds_len (xs : List Int) : ∀ n, (rounds xs n).length = xs.length
  | 0 => rfl
  | n + 1 => by rw [rounds, two_len, rounds_len xs n]
def kw (xs : List Int) (n : Nat) : List Int := (List.range n).map fun i => leN (xs.drop (4 * i)) 4
theorem kw_len (xs : List Int) (n : Nat) : (kw xs n).length = n := by simp [kw]
theorem kw_step {K xs : List Int} {i : Int} (h0 : 0 ≤ i) (hx : In .u8 xs) : (K ++ kw xs i.toNat) ++ [IntKind.wrap .u32 (leN ((xs.drop (4 * i).toNat).take (xs.length - (4 * i).toNat)) 4)] = K ++ kw xs (i + 1).toNat := by
  rw [show (i + 1).toNat = i.toNat + 1 by omega, kw, kw, List.range_succ, List.map_append, List.append_assoc, List.take_of_length_le (by simp), wrap_u32 _ (leN_bd (hx.drop _) 4).1 (leN_bd (hx.drop _) 4).2, show (4 * i).toNat = 4 * i.toNat by omega]
  rfl
/-- The words that a block begins with. -/
def begin_ (key nonce : List Int) (counter : Int) : List Int :=
  [1634760805, 857760878, 2036477234, 1797285236] ++ kw key 8 ++ [counter] ++ kw nonce 3
theorem begin_len (key nonce : List Int) (counter : Int) : (begin_ key nonce counter).length = 16 := by simp [begin_, kw]
/-- The bytes of the first n sums. -/
def outs (ys xs : List Int) : Nat → List Int
  | 0 => []
  | n + 1 => outs ys xs n ++ leB (add32 (ys.getD n 0) (xs.getD n 0)) 4
theorem outs_len (ys xs : List Int) : ∀ n, (outs ys xs n).length = 4 * n
  | 0 => rfl
  | n + 1 => by rw [outs, List.length_append, outs_len ys xs n, leB_len]; omega
theorem outs_in (ys xs : List Int) : ∀ n, In .u8 (outs ys xs n)
  | 0 => In.nil _
  | n + 1 => (outs_in ys xs n).append (leB_in _ _)
/-- The document's block. -/
def block (key nonce : List Int) (counter : Int) : List Int := outs (rounds (begin_ key nonce counter) 10) (begin_ key nonce counter) 16
theorem block_len (key nonce : List Int) (counter : Int) : (block key nonce counter).length = 64 := outs_len _ _ _
/-! ### The reference's block: the same, a column or a diagonal at a time -/
def q4 (a b c d : Int) : Int × Int × Int × Int :=
  let a1 := add32 a b; let d1 := rotl (bits2 .xor .u32 d a1) 16; let c1 := add32 c d1; let b1 := rotl (bits2 .xor .u32 b c1) 12
  let a2 := add32 a1 b1; let d2 := rotl (bits2 .xor .u32 d1 a2) 8; let c2 := add32 c1 d2; let b2 := rotl (bits2 .xor .u32 b1 c2) 7
  (a2, b2, c2, d2)
def qset (xs : List Int) (a b c d : Int) : List Int :=
  let r := q4 (xs.getD a.toNat 0) (xs.getD b.toNat 0) (xs.getD c.toNat 0) (xs.getD d.toNat 0)
  (((xs.set a.toNat r.1).set b.toNat r.2.1).set c.toNat r.2.2.1).set d.toNat r.2.2.2
theorem qset_len (xs : List Int) (a b c d : Int) : (qset xs a b c d).length = xs.length := by simp [qset]
def cols (xs : List Int) : Nat → List Int
  | 0 => xs
  | n + 1 => qset (cols xs n) n (4 + n) (8 + n) (12 + n)
def diags (xs : List Int) : Nat → List Int
  | 0 => xs
  | n + 1 => qset (diags xs n) n (4 + (n + 1) % 4) (8 + (n + 2) % 4) (12 + (n + 3) % 4)
theorem cols_len (xs : List Int) : ∀ n, (cols xs n).length = xs.length
  | 0 => rfl
  | n + 1 => by rw [cols, qset_len, cols_len xs n]
theorem diags_len (xs : List Int) : ∀ n, (diags xs n).length = xs.length
  | 0 => rfl
  | n + 1 => by rw [diags, qset_len, diags_len xs n]
theorem sixteen {P : List Int → Prop} (h : ∀ a b c d e f g i j k l m n o p q : Int, P [a, b, c, d, e, f, g, i, j, k, l, m, n, o, p, q]) (xs : List Int) (hl : xs.length = 16) : P xs := by
  match xs, hl with
  | [a, b, c, d, e, f, g, i, j, k, l, m, n, o, p, q], _ => exact h a b c d e f g i j k l m n o p q
theorem qs0 : ∀ xs : List Int, xs.length = 16 → qset xs 0 4 8 12 = quarter xs 0 4 8 12 := sixteen fun _ _ _ _ _ _ _ _ _ _ _ _ _ _ _ _ => rfl
theorem qs1 : ∀ xs : List Int, xs.length = 16 → qset xs 1 5 9 13 = quarter xs 1 5 9 13 := sixteen fun _ _ _ _ _ _ _ _ _ _ _ _ _ _ _ _ => rfl
theorem qs2 : ∀ xs : List Int, xs.length = 16 → qset xs 2 6 10 14 = quarter xs 2 6 10 14 := sixteen fun _ _ _ _ _ _ _ _ _ _ _ _ _ _ _ _ => rfl
theorem qs3 : ∀ xs : List Int, xs.length = 16 → qset xs 3 7 11 15 = quarter xs 3 7 11 15 := sixteen fun _ _ _ _ _ _ _ _ _ _ _ _ _ _ _ _ => rfl
theorem qs4 : ∀ xs : List Int, xs.length = 16 → qset xs 0 5 10 15 = quarter xs 0 5 10 15 := sixteen fun _ _ _ _ _ _ _ _ _ _ _ _ _ _ _ _ => rfl
theorem qs5 : ∀ xs : List Int, xs.length = 16 → qset xs 1 6 11 12 = quarter xs 1 6 11 12 := sixteen fun _ _ _ _ _ _ _ _ _ _ _ _ _ _ _ _ => rfl
theorem qs6 : ∀ xs : List Int, xs.length = 16 → qset xs 2 7 8 13 = quarter xs 2 7 8 13 := sixteen fun _ _ _ _ _ _ _ _ _ _ _ _ _ _ _ _ => rfl
theorem qs7 : ∀ xs : List Int, xs.length = 16 → qset xs 3 4 9 14 = quarter xs 3 4 9 14 := sixteen fun _ _ _ _ _ _ _ _ _ _ _ _ _ _ _ _ => rfl
theorem two_eq (xs : List Int) (h : xs.length = 16) : diags (cols xs 4) 4 = two xs := by
  have e : diags (cols xs 4) 4 = qset (qset (qset (qset (qset (qset (qset (qset xs 0 4 8 12) 1 5 9 13) 2 6 10 14) 3 7 11 15) 0 5 10 15) 1 6 11 12) 2 7 8 13) 3 4 9 14 := rfl
  rw [e, two, qs0 _ h, qs1 _ (by simpa [quarter_len] using h), qs2 _ (by simpa [quarter_len] using h), qs3 _ (by simpa [quarter_len] using h), qs4 _ (by simpa [quarter_len] using h), qs5 _ (by simpa [quarter_len] using h), qs6 _ (by simpa [quarter_len] using h), qs7 _ (by simpa [quarter_len] using h)]
/-! ### The stream -/
def stream (key nonce : List Int) (n : Int) (i : Nat) : Int := (block key nonce (add32 n ((i / 64 : Nat) : Int))).getD (i % 64) 0
def xorP (key nonce : List Int) (n : Int) (b : List Int) (m : Nat) : List Int := (List.range m).map fun i => bits2 .xor .u8 (b.getD i 0) (stream key nonce n i)
theorem xorP_len (key nonce : List Int) (n : Int) (b : List Int) (m : Nat) : (xorP key nonce n b m).length = m := by simp [xorP]
theorem xorP_succ (key nonce : List Int) (n : Int) (b : List Int) (m : Nat) : xorP key nonce n b (m + 1) = xorP key nonce n b m ++ [bits2 .xor .u8 (b.getD m 0) (stream key nonce n m)] := by
  simp [xorP, List.range_succ]
theorem xorP_in (key nonce : List Int) (n : Int) (b : List Int) (m : Nat) : In .u8 (xorP key nonce n b m) := fun x hx => by
  obtain ⟨i, _, rfl⟩ := List.mem_map.1 hx
  exact fits_bits2 _ _ _ _
theorem wrap32 (x : Int) : IntKind.wrap .u32 x = x % 4294967296 := by simp [IntKind.wrap, IntKind.bits, IntKind.signed]
theorem add32_add (n a b : Int) : add32 (add32 n a) b = add32 n (a + b) := by simp only [add32, wrap32]; omega
theorem add32_wrap (n a : Int) : add32 n (IntKind.wrap .u32 a) = add32 n a := by simp only [add32, wrap32]; omega
theorem add32_0 {n : Int} (h : fits .u32 n) : add32 n 0 = n := by simp only [fits] at h; simp only [add32, wrap32]; omega
theorem fits_add32 (a b : Int) : fits .u32 (add32 a b) := fits_wrap _ _
/-- A byte of the program's text: its block is the one that the counter has come to. -/
theorem stream_at {key nonce : List Int} {n cn : Int} {q i : Nat} (hc : cn = add32 n q) (hi : i < 64) : (block key nonce cn).getD i 0 = stream key nonce n (64 * q + i) := by
  rw [stream, show (64 * q + i) / 64 = q by omega, show (64 * q + i) % 64 = i by omega, hc]
theorem ref_step {key nonce bs ps ss : List Int} {n i : Int} (hs : ss = block key nonce (add32 n ((i.toNat / 64 : Nat) : Int))) (h0 : 0 ≤ i) :
    ps ++ [bits2 .xor .u8 (bs.getD i.toNat 0) (ss.getD (i % 64).toNat 0)] = ps ++ [bits2 .xor .u8 (bs.getD i.toNat 0) (stream key nonce n i.toNat)] := by
  rw [stream, hs, show (i % 64).toNat = i.toNat % 64 by omega]
theorem ref_step0 {key nonce bs ps : List Int} {n i : Int} (h0 : 0 ≤ i) (h1 : i % 64 = 0) :
    ps ++ [bits2 .xor .u8 (bs.getD i.toNat 0) ((block key nonce (IntKind.wrap .u32 (n + IntKind.wrap .u32 (i / 64)))).getD (i % 64).toNat 0)] = ps ++ [bits2 .xor .u8 (bs.getD i.toNat 0) (stream key nonce n i.toNat)] := by
  rw [stream, show (i % 64).toNat = i.toNat % 64 by omega, show i / 64 = ((i.toNat / 64 : Nat) : Int) by omega, ← add32, add32_wrap]
theorem ref_keep {key nonce ss : List Int} {n i : Int} (hs : ss = block key nonce (add32 n ((i.toNat / 64 : Nat) : Int))) (h0 : 0 ≤ i) : (i + 1) % 64 = 0 ∨ ss = block key nonce (add32 n (((i + 1).toNat / 64 : Nat) : Int)) := by
  by_cases h : (i + 1) % 64 = 0
  · exact .inl h
  · exact .inr (by rw [hs, show (i + 1).toNat / 64 = i.toNat / 64 by omega])
theorem ref_keep0 {key nonce ss : List Int} {n i : Int} (hs : ss = block key nonce (IntKind.wrap .u32 (n + IntKind.wrap .u32 (i / 64)))) (h0 : 0 ≤ i) (h1 : i % 64 = 0) : (i + 1) % 64 = 0 ∨ ss = block key nonce (add32 n (((i + 1).toNat / 64 : Nat) : Int)) :=
  .inr (by rw [hs, ← add32, add32_wrap, show i / 64 = (((i + 1).toNat / 64 : Nat) : Int) by omega])
def kk (n : Nat) : List Int := (List.range n).map fun (j : Nat) => (j : Int)
theorem kk_step {i : Int} (h0 : 0 ≤ i) (h : i < 32) : (kk i.toNat ++ List.replicate (32 - i).toNat 0).set i.toNat i = kk (i + 1).toNat ++ List.replicate (32 - (i + 1)).toNat 0 := by
  have e := set_append (xs := kk i.toNat) (m := (32 - i).toNat) (by omega) i
  rw [show (kk i.toNat).length = i.toNat by simp [kk]] at e
  rw [e, show (i + 1).toNat = i.toNat + 1 by omega, show (32 - (i + 1)).toNat = (32 - i).toNat - 1 by omega]
  simp [kk, List.range_succ, Int.toNat_of_nonneg h0]
theorem awake_at {e n v : Int} {zs key K nonce : List Int} {i : Nat} (h : e = 0 → zs = block key nonce n) (he : e = 0) (hk : key = K) (hd : (block K nonce n).getD i 0 = v) : zs.getD i 0 = v := by rw [h he, hk, hd]
theorem same2 {e f : Int} {a b c : List Int} (h : e = 0 → a = c) (he : e = 0) (h2 : f = 0 → b = c) (hf : f = 0) : a = b := (h he).trans (h2 hf).symm
theorem xor_twice {a b : Int} (ha : 0 ≤ a ∧ a < 256) (hb : 0 ≤ b ∧ b < 256) : bits2 .xor .u8 (bits2 .xor .u8 a b) b = a := by
  have e := bits_xor .u8 rfl a b ha hb
  have h1 : fits .u8 (bits2 .xor .u8 a b) := fits_bits2 _ _ _ _
  rw [bits_xor .u8 rfl _ _ h1 hb, e]
  rw [Int.toNat_natCast, Nat.xor_assoc, Nat.xor_self, Nat.xor_zero]
  omega
theorem xor_zero {b : Int} (hb : 0 ≤ b ∧ b < 256) : bits2 .xor .u8 0 b = b := by
  rw [bits_xor .u8 rfl 0 b ⟨by decide, by decide⟩ hb]
  simp
  omega
theorem stream_in (key nonce : List Int) (n : Int) (i : Nat) : 0 ≤ stream key nonce n i ∧ stream key nonce n i < 256 := (outs_in _ _ 16).at_ _
theorem xorP_getD (key nonce : List Int) (n : Int) (b : List Int) (m i : Nat) (h : i < m) : (xorP key nonce n b m).getD i 0 = bits2 .xor .u8 (b.getD i 0) (stream key nonce n i) := by
  simp [xorP, h]
theorem ext_getD {a b : List Int} (hl : a.length = b.length) (h : ∀ i, i < a.length → a.getD i 0 = b.getD i 0) : a = b := by
  apply List.ext_getElem hl
  intro i h1 h2
  have := h i h1
  rwa [List.getD_eq_getElem?_getD, List.getD_eq_getElem?_getD, List.getElem?_eq_getElem h1, List.getElem?_eq_getElem h2] at this
theorem xor_back {key nonce b : List Int} {n : Int} (hb : In .u8 b) : xorP key nonce n (xorP key nonce n b b.length) (xorP key nonce n b b.length).length = b := by
  refine ext_getD (by simp [xorP_len]) fun i hi => ?_
  rw [xorP_len, xorP_len] at hi
  rw [xorP_getD _ _ _ _ _ _ (by rw [xorP_len]; exact hi), xorP_getD _ _ _ _ _ _ hi]
  exact xor_twice (hb.at_ i) (stream_in _ _ _ _)
theorem back_of {e f : Int} {key nonce b x z : List Int} {n : Int} (hz : f = 0 → z = xorP key nonce n x x.length) (hf : f = 0) (hx : e = 0 → x = xorP key nonce n b b.length) (he : e = 0) (hb : In .u8 b) : z = b := by
  rw [hz hf, hx he, xor_back hb]
theorem getD_app_l {a b : List Int} {i : Nat} (h : i < a.length) : (a ++ b).getD i 0 = a.getD i 0 := by rw [List.getD_eq_getElem?_getD, List.getD_eq_getElem?_getD, List.getElem?_append_left h]
theorem getD_app_r {a b : List Int} {i : Nat} (h : a.length ≤ i) : (a ++ b).getD i 0 = b.getD (i - a.length) 0 := by rw [List.getD_eq_getElem?_getD, List.getD_eq_getElem?_getD, List.getElem?_append_right h]
theorem stream_far (key nonce : List Int) (n : Int) (q i : Nat) : stream key nonce (add32 n q) i = stream key nonce n (64 * q + i) := by
  rw [stream, stream, add32_add, show (64 * q + i) / 64 = q + i / 64 by omega, show (64 * q + i) % 64 = i % 64 by omega]
  simp
theorem parts_of {e f g : Int} {key nonce b x y z y0 z0 : List Int} {n N : Int} (hx : e = 0 → x = xorP key nonce n b b.length) (he : e = 0) (hy : f = 0 → y = xorP key nonce n y0 y0.length) (hf : f = 0)
    (hz : g = 0 → z = xorP key nonce (IntKind.wrap .u32 (n + IntKind.wrap .u32 (N / 64))) z0 z0.length) (hg : g = 0) (hy0 : y0 = b.take N.toNat) (hz0 : z0 = (b.drop N.toNat).take (b.length - N.toNat)) (h0 : 0 ≤ N) (h1 : N % 64 = 0) (h2 : N ≤ b.length) : x = y ++ z := by
  have e1 : IntKind.wrap .u32 (n + IntKind.wrap .u32 (N / 64)) = add32 n ((N.toNat / 64 : Nat) : Int) := by rw [← add32, add32_wrap, show N / 64 = ((N.toNat / 64 : Nat) : Int) by omega]
  have e2 : z0 = b.drop N.toNat := by rw [hz0, List.take_of_length_le (by simp)]
  have l1 : y0.length = N.toNat := by rw [hy0, List.length_take]; omega
  have l2 : z0.length = b.length - N.toNat := by rw [e2, List.length_drop]
  rw [hx he, hy hf, hz hg, e1]
  refine ext_getD (by simp [xorP_len, l1, l2]; omega) fun i hi => ?_
  rw [xorP_len] at hi
  rw [xorP_getD _ _ _ _ _ _ hi]
  by_cases hc : i < N.toNat
  · rw [getD_app_l (by rw [xorP_len, l1]; exact hc), xorP_getD _ _ _ _ _ _ (by omega), hy0]
    congr 1
    rw [List.getD_eq_getElem?_getD, List.getD_eq_getElem?_getD, List.getElem?_take, if_pos hc]
  · rw [getD_app_r (by rw [xorP_len, l1]; omega), xorP_len, l1, xorP_getD _ _ _ _ _ _ (by omega), stream_far, e2]
    rw [show 64 * (N.toNat / 64) + (i - N.toNat) = i by omega]
    congr 1
    rw [List.getD_eq_getElem?_getD, List.getD_eq_getElem?_getD, List.getElem?_drop, show N.toNat + (i - N.toNat) = i by omega]
def blocksP (key nonce : List Int) (n : Int) : Nat → List Int
  | 0 => []
  | m + 1 => blocksP key nonce n m ++ block key nonce (add32 n m)
theorem blocksP_len (key nonce : List Int) (n : Int) : ∀ m, (blocksP key nonce n m).length = 64 * m
  | 0 => rfl
  | m + 1 => by rw [blocksP, List.length_append, blocksP_len, block_len]; omega
theorem blocksP_getD (key nonce : List Int) (n : Int) : ∀ m i, i < 64 * m → (blocksP key nonce n m).getD i 0 = stream key nonce n i
  | 0, i, h => by omega
  | m + 1, i, h => by
    rw [blocksP]
    by_cases hc : i < 64 * m
    · rw [getD_app_l (by rw [blocksP_len]; exact hc), blocksP_getD key nonce n m i hc]
    · rw [getD_app_r (by rw [blocksP_len]; omega), blocksP_len, stream, show i / 64 = m by omega, show i % 64 = i - 64 * m by omega]
theorem stream_of {e : Int} {key nonce x al : List Int} {n : Int} {k : Nat} {m : Int} (hx : e = 0 → x = xorP key nonce n (List.replicate k (0 : Int)) (List.replicate k (0 : Int)).length) (he : e = 0) (ha : al = blocksP key nonce n m.toNat) (hk : k = 64 * m.toNat) : x = al := by
  rw [hx he, ha]
  refine ext_getD (by simp [xorP_len, blocksP_len, hk]) fun i hi => ?_
  rw [xorP_len, List.length_replicate] at hi
  rw [xorP_getD _ _ _ _ _ _ (by simpa using hi), blocksP_getD _ _ _ _ _ (by omega)]
  rw [show (List.replicate k (0 : Int)).getD i 0 = 0 by simp [hi]]
  exact xor_zero (stream_in _ _ _ _)
theorem blocks_step {e : Int} {key nonce al z : List Int} {n i : Int} (h : al = blocksP key nonce n i.toNat) (h0 : 0 ≤ i) (hz : e = 0 → z = block key nonce (IntKind.wrap .u32 (n + IntKind.wrap .u32 i))) (he : e = 0) : al ++ z = blocksP key nonce n (i + 1).toNat := by
  rw [show (i + 1).toNat = i.toNat + 1 by omega, blocksP, ← h, hz he, ← add32, add32_wrap, Int.toNat_of_nonneg h0]
theorem same_of {e : Int} {a b c : List Int} (h : e = 0 → a = c) (he : e = 0) (h2 : b = c) : a = b := (h he).trans h2.symm
end Go.Proofs.Ytkehpipialmneaa.SL.C
