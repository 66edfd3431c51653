/- Poly1305: plain laws. -/
import Derived.Test.YtkehpipialmneaaNPure
import Derived.Test.YtkehpipialmneaaSLzn
namespace Go.Proofs.Ytkehpipialmneaa.SL.Y
set_option linter.unusedVariables false
set_option linter.unusedSimpArgs false
open Go Go.Proofs.Ytkehpipialmneaa.SL Go.Proofs.Ytkehpipialmneaa.SL.W
open Go.Proofs.Ytkehpipialmneaa.SL.F (mapP mapP_len mapP_at mapP_step set_at wrap64 wrap_mod five getD_app_r)
open Go.Proofs.Ytkehpipialmneaa.SL.N (leN_split leN_succ leN_set leN_same leN_eq leN_sum sumN mapP_get mapP_tail leB_leN leN_ge leN_nil ext_getD cf df gs cf_sum p32)
def chunk (n : Nat) (xs : List Int) (i : Nat) : List Int := (xs.drop (n * i)).take n
theorem chunk_len (n : Nat) (xs : List Int) (i : Nat) : (chunk n xs i).length = min n (xs.length - n * i) := by simp [chunk]
theorem chunk_is (n : Nat) (xs : List Int) (i : Nat) : (xs.drop (n * i)).take (n * i + (chunk n xs i).length - n * i) = chunk n xs i := by
  rw [Nat.add_sub_cancel_left, chunk_len, chunk]
  apply List.take_eq_take_iff.2
  simp
theorem chunk_in {n : Nat} {xs : List Int} {k : IntKind} (h : In k xs) (i : Nat) : In k (chunk n xs i) := (h.drop _).take _
theorem nil_of_none {A : Option Addr} {xs : List Int} (h : Option.isNone A = true) (hA : 0 < xs.length → Option.isSome A = true) : xs = [] := by
  cases xs with
  | nil => rfl
  | cons x xs =>
    have := hA (by simp)
    cases A <;> simp_all
def Q : Int := 1361129467683753853853498429727072845819
def blkN (bs : List Int) : Int := leN (bs ++ [1]) (bs.length + 1)
def acc (r : Int) (m : List Int) : Nat → Int
  | 0 => 0
  | j + 1 => (acc r m j + blkN (chunk 16 m j)) * r % Q
def clamp (xs : List Int) : List Int := (List.range 16).map fun i => if i % 4 = 3 then xs.getD i 0 % 16 else if 0 < i ∧ i % 4 = 0 then xs.getD i 0 / 4 * 4 else xs.getD i 0
def rOf (xs : List Int) : Int := leN (clamp xs) 16
def tagL (xs m : List Int) : List Int := if xs.length = 32 then leB (acc (rOf xs) m ((m.length + 15) / 16) + leN (xs.drop 16) 16) 16 else []
def codeL (xs : List Int) : Int := if xs.length = 32 then 0 else 1
theorem clamp_in {xs : List Int} (hx : In .u8 xs) : In .u8 (clamp xs) := fun z hz => by
  obtain ⟨i, _, rfl⟩ := List.mem_map.1 hz
  have h : 0 ≤ xs.getD i 0 ∧ xs.getD i 0 < 256 := hx.at_ i
  simp only [fits]
  split
  · omega
  · split <;> omega
theorem rOf_bd {xs : List Int} (hx : In .u8 xs) : 0 ≤ rOf xs ∧ rOf xs < 340282366920938463463374607431768211456 := by
  have := leN_bd (clamp_in hx) 16
  rw [show (256 : Int) ^ 16 = 340282366920938463463374607431768211456 by decide] at this
  exact this
theorem blk_bd {bs : List Int} (hb : In .u8 bs) (hl : bs.length ≤ 16) : 0 ≤ blkN bs ∧ blkN bs < 680564733841876926926749214863536422912 := by
  have hi := hb.append (In.cons (show fits .u8 1 by simp only [fits]; omega) (In.nil _))
  have h1 := leN_bd hi (bs.length + 1)
  have h0 := leN_bd hi bs.length
  have e := leN_split (bs ++ [1]) bs.length 1
  have h2 : (256 : Int) ^ bs.length ≤ 256 ^ 16 := pow_le (by omega)
  have e3 : leN ((bs ++ [1]).drop bs.length) 1 = 1 := by rw [List.drop_left]; decide
  rw [e3, Int.mul_one] at e
  rw [show (256 : Int) ^ 16 = 340282366920938463463374607431768211456 by decide] at h2
  exact ⟨h1.1, by rw [blkN, e]; omega⟩
def vP (xs : List Int) : Int := xs.foldr (fun x v => x + 67108864 * v) 0
abbrev L5 (b : Int) (xs : List Int) : Prop := F.Lim b xs
structure PE (xs : List Int) (v : Int) : Prop where
  lim : L5 67117056 xs
  vl : vP xs % Q = v
def limbs (X : Int) : List Int := [X % 67108864, X / 67108864 % 67108864, X / 67108864 / 67108864 % 67108864, X / 67108864 / 67108864 / 67108864 % 67108864, X / 67108864 / 67108864 / 67108864 / 67108864 % 67108864]
theorem limbs_val {X : Int} (h0 : 0 ≤ X) (h1 : X < 1361129467683753853853498429727072845824) : vP (limbs X) = X := by
  simp only [limbs, vP, List.foldr_cons, List.foldr_nil]
  omega
theorem limbs_lim (X : Int) : L5 67108864 (limbs X) := ⟨rfl, fun x hx => by
  simp only [limbs, List.mem_cons, List.not_mem_nil, or_false] at hx
  rcases hx with rfl | rfl | rfl | rfl | rfl <;> omega⟩
theorem and26 {x : Int} (h : 0 ≤ x ∧ x < 18446744073709551616) : bits2 .and .u64 x 67108863 = x % 67108864 := by
  rw [bits_and .u64 rfl x _ ⟨h.1, h.2⟩ ⟨by decide, by decide⟩, show (67108863 : Int).toNat = 2 ^ 26 - 1 from rfl, Nat.and_two_pow_sub_one_eq_mod]
  omega
theorem load_limb {xs : List Int} (hx : In .u8 xs) (hl : xs.length ≤ 17) {k r : Nat} (hr : r ≤ 6) :
    bits2 .and .u64 (leN (xs.drop (min k xs.length)) 8 / 2 ^ r) 67108863 = leN xs 17 / 256 ^ k / 2 ^ r % 67108864 := by
  have e0 : leN (xs.drop (min k xs.length)) 8 = leN (xs.drop k) 8 := by
    rcases Nat.le_total k xs.length with h | h
    · rw [Nat.min_eq_left h]
    · rw [Nat.min_eq_right h, List.drop_length, List.drop_of_length_le h]
  have b8 := leN_bd (hx.drop k) 8
  rw [show (256 : Int) ^ 8 = 18446744073709551616 by decide] at b8
  have e1 : leN xs 17 / 256 ^ k = leN (xs.drop k) 17 := by
    have h1 := leN_split xs k 17
    have h2 : leN xs (k + 17) = leN xs 17 := by rw [Nat.add_comm]; exact leN_ge hl k
    rw [h2] at h1
    rw [h1, Int.add_mul_ediv_left _ _ (Int.ne_of_gt (pow_pos' k)), Int.ediv_eq_zero_of_lt (leN_bd hx k).1 (leN_bd hx k).2, Int.zero_add]
  have e2 := leN_split (xs.drop k) 8 9
  rw [show (256 : Int) ^ 8 = 18446744073709551616 by decide, show 8 + 9 = 17 from rfl] at e2
  have hp : (0 : Int) < 2 ^ r := Int.pow_pos (by decide)
  have hq : 0 ≤ leN (xs.drop k) 8 / 2 ^ r ∧ leN (xs.drop k) 8 / 2 ^ r ≤ leN (xs.drop k) 8 := ⟨Int.ediv_nonneg b8.1 (Int.le_of_lt hp), Int.ediv_le_self _ b8.1⟩
  rw [e0, and26 ⟨hq.1, by omega⟩, e1, e2]
  rcases (show r = 0 ∨ r = 1 ∨ r = 2 ∨ r = 3 ∨ r = 4 ∨ r = 5 ∨ r = 6 by omega) with rfl | rfl | rfl | rfl | rfl | rfl | rfl <;> omega
theorem load_end {xs os : List Int} (hx : In .u8 xs) (hl : xs.length ≤ 17)
    (ho : os = [bits2 .and .u64 (leN (xs.drop (min 0 xs.length)) 8 / 2 ^ 0) 67108863, bits2 .and .u64 (leN (xs.drop (min 3 xs.length)) 8 / 2 ^ 2) 67108863, bits2 .and .u64 (leN (xs.drop (min 6 xs.length)) 8 / 2 ^ 4) 67108863,
      bits2 .and .u64 (leN (xs.drop (min 9 xs.length)) 8 / 2 ^ 6) 67108863, bits2 .and .u64 (leN (xs.drop (min 13 xs.length)) 8 / 2 ^ 0) 67108863]) : os = limbs (leN xs 17) := by
  rw [ho, load_limb hx hl (by decide), load_limb hx hl (by decide), load_limb hx hl (by decide), load_limb hx hl (by decide), load_limb hx hl (by decide), limbs]
  generalize leN xs 17 = X
  rw [show (256 : Int) ^ 0 = 1 by decide, show (256 : Int) ^ 3 = 16777216 by decide, show (256 : Int) ^ 6 = 281474976710656 by decide, show (256 : Int) ^ 9 = 4722366482869645213696 by decide, show (256 : Int) ^ 13 = 20282409603651670423947251286016 by decide]
  congr 1
  · omega
  · congr 1
    · omega
    · congr 1
      · omega
      · congr 1
        · omega
        · congr 1
          omega
def addP (xs ys : List Int) (n : Nat) : List Int := mapP (fun i => xs.getD i 0 + ys.getD i 0) xs n
theorem addP_step {xs ys os : List Int} {n : Nat} (hx : L5 134217728 xs) (hy : L5 134217728 ys) (hn : n < 5) (ho : os = addP xs ys n) : os.set n (IntKind.wrap .u64 (os.getD n 0 + ys.getD n 0)) = addP xs ys (n + 1) := by
  have h1 := hx.at hn
  have h2 := hy.at hn
  have e : os.getD n 0 = xs.getD n 0 := by rw [ho, addP, mapP_at]
  rw [e, wrap64 (by omega) (by omega), ho]
  exact mapP_step _ _ _ (by rw [hx.1]; exact hn)
theorem addP_end {xs ys : List Int} (hx : L5 67117056 xs) (hy : L5 67108864 ys) : L5 134225920 (addP xs ys 5) ∧ vP (addP xs ys 5) = vP xs + vP ys := by
  obtain ⟨lx, bx⟩ := hx
  obtain ⟨ly, by_⟩ := hy
  match xs, lx, ys, ly with
  | [a, b, c, d, e], _, [a', b', c', d', e'], _ =>
    have q : ∀ x ∈ [a, b, c, d, e], 0 ≤ x ∧ x < 67117056 := bx
    have q' : ∀ x ∈ [a', b', c', d', e'], 0 ≤ x ∧ x < 67108864 := by_
    simp only [List.mem_cons, List.not_mem_nil, or_false, forall_eq_or_imp, forall_eq] at q q'
    show L5 _ [a + a', b + b', c + c', d + d', e + e'] ∧ vP [a + a', b + b', c + c', d + d', e + e'] = _
    refine ⟨⟨rfl, fun x hx => ?_⟩, ?_⟩
    · simp only [List.mem_cons, List.not_mem_nil, or_false] at hx
      rcases hx with rfl | rfl | rfl | rfl | rfl <;> omega
    · simp only [vP, List.foldr_cons, List.foldr_nil]
      omega
def kC (xs : List Int) : Nat → Int
  | 0 => 0
  | n + 1 => (xs.getD n 0 + kC xs n) / 67108864
def kL (xs : List Int) (n : Nat) : List Int := mapP (fun i => (xs.getD i 0 + kC xs i) % 67108864) xs n
theorem kC_bd {xs : List Int} (h : L5 1152921504606846976 xs) : ∀ n, n ≤ 5 → 0 ≤ kC xs n ∧ kC xs n ≤ 17179869440
  | 0, _ => ⟨Int.le_refl _, by simp [kC]⟩
  | n + 1, hn => by
    have h1 := kC_bd h n (by omega)
    have h2 := h.at (i := n) (by omega)
    rw [kC]
    omega
theorem k_step {xs os : List Int} {n : Nat} {c : Int} (h : L5 1152921504606846976 xs) (hn : n < 5) (ho : os = kL xs n) (hc : c = kC xs n) :
    (os.set n (IntKind.wrap .u64 (os.getD n 0 + c))).set n (bits2 .and .u64 ((os.set n (IntKind.wrap .u64 (os.getD n 0 + c))).getD n 0) 67108863) = kL xs (n + 1) ∧ (os.set n (IntKind.wrap .u64 (os.getD n 0 + c))).getD n 0 / 2 ^ 26 = kC xs (n + 1) := by
  have hl : os.length = 5 := by rw [ho, kL, mapP_len _ _ _ (by rw [h.1]; omega), h.1]
  have e : os.getD n 0 = xs.getD n 0 := by rw [ho, kL, mapP_at]
  have h1 := h.at hn
  have h2 := kC_bd h n (by omega)
  rw [e, hc, wrap64 (by omega) (by omega), set_at (by omega), List.set_set, and26 (by omega), ho]
  exact ⟨mapP_step (fun i => (xs.getD i 0 + kC xs i) % 67108864) _ _ (by rw [h.1]; exact hn), rfl⟩
def kR (xs : List Int) : List Int :=
  let a := (kL xs 5).getD 0 0 + 5 * kC xs 5
  [a % 67108864, (kL xs 5).getD 1 0 + a / 67108864, (kL xs 5).getD 2 0, (kL xs 5).getD 3 0, (kL xs 5).getD 4 0]
theorem kL_is (a b c d e : Int) : kL [a, b, c, d, e] 5 = [(a + 0) % 67108864, (b + kC [a, b, c, d, e] 1) % 67108864, (c + kC [a, b, c, d, e] 2) % 67108864, (d + kC [a, b, c, d, e] 3) % 67108864, (e + kC [a, b, c, d, e] 4) % 67108864] := rfl
theorem k_end {xs os : List Int} {c : Int} (h : L5 1152921504606846976 xs) (ho : os = kL xs 5) (hc : c = kC xs 5) :
    ((os.set 0 (IntKind.wrap .u64 (os.getD 0 0 + IntKind.wrap .u64 (5 * c)))).set 1 (IntKind.wrap .u64 ((os.set 0 (IntKind.wrap .u64 (os.getD 0 0 + IntKind.wrap .u64 (5 * c)))).getD 1 0 + (os.set 0 (IntKind.wrap .u64 (os.getD 0 0 + IntKind.wrap .u64 (5 * c)))).getD 0 0 / 2 ^ 26))).set 0
      (bits2 .and .u64 (((os.set 0 (IntKind.wrap .u64 (os.getD 0 0 + IntKind.wrap .u64 (5 * c)))).set 1 (IntKind.wrap .u64 ((os.set 0 (IntKind.wrap .u64 (os.getD 0 0 + IntKind.wrap .u64 (5 * c)))).getD 1 0 + (os.set 0 (IntKind.wrap .u64 (os.getD 0 0 + IntKind.wrap .u64 (5 * c)))).getD 0 0 / 2 ^ 26))).getD 0 0) 67108863) = kR xs := by
  have h5 := kC_bd h 5 (by omega)
  obtain ⟨hl, hb⟩ := h
  match xs, hl with
  | [a, b, c', d, e], _ =>
    have e1 := kL_is a b c' d e
    rw [e1] at ho
    rw [kR, e1, hc, ho]
    generalize kC [a, b, c', d, e] 5 = k5 at *
    generalize kC [a, b, c', d, e] 1 = k1 at *
    show [bits2 .and .u64 (IntKind.wrap .u64 ((a + 0) % 67108864 + IntKind.wrap .u64 (5 * k5))) 67108863, IntKind.wrap .u64 ((b + k1) % 67108864 + IntKind.wrap .u64 ((a + 0) % 67108864 + IntKind.wrap .u64 (5 * k5)) / 2 ^ 26), _, _, _] = [((a + 0) % 67108864 + 5 * k5) % 67108864, (b + k1) % 67108864 + ((a + 0) % 67108864 + 5 * k5) / 67108864, _, _, _]
    rw [wrap64 (x := 5 * k5) (by omega) (by omega), wrap64 (x := (a + 0) % 67108864 + 5 * k5) (by omega) (by omega), and26 (by omega), wrap64 (by omega) (by omega)]
    rfl
theorem kR_pe {xs : List Int} {v : Int} (h : L5 1152921504606846976 xs) (hv : vP xs % Q = v) : PE (kR xs) v := by
  have h5 := kC_bd h 5 (by omega)
  obtain ⟨hl, hb⟩ := h
  match xs, hl with
  | [a, b, c, d, e], _ =>
    have e1 := kL_is a b c d e
    have c1 : kC [a, b, c, d, e] 1 = (a + 0) / 67108864 := rfl
    have c2 : kC [a, b, c, d, e] 2 = (b + kC [a, b, c, d, e] 1) / 67108864 := rfl
    have c3 : kC [a, b, c, d, e] 3 = (c + kC [a, b, c, d, e] 2) / 67108864 := rfl
    have c4 : kC [a, b, c, d, e] 4 = (d + kC [a, b, c, d, e] 3) / 67108864 := rfl
    have c5 : kC [a, b, c, d, e] 5 = (e + kC [a, b, c, d, e] 4) / 67108864 := rfl
    rw [kR, e1]
    generalize kC [a, b, c, d, e] 1 = k1 at *
    generalize kC [a, b, c, d, e] 2 = k2 at *
    generalize kC [a, b, c, d, e] 3 = k3 at *
    generalize kC [a, b, c, d, e] 4 = k4 at *
    generalize kC [a, b, c, d, e] 5 = k5 at *
    show PE [((a + 0) % 67108864 + 5 * k5) % 67108864, (b + k1) % 67108864 + ((a + 0) % 67108864 + 5 * k5) / 67108864, (c + k2) % 67108864, (d + k3) % 67108864, (e + k4) % 67108864] v
    refine ⟨⟨rfl, fun x hx => ?_⟩, ?_⟩
    · simp only [List.mem_cons, List.not_mem_nil, or_false] at hx
      rcases hx with rfl | rfl | rfl | rfl | rfl <;> omega
    · rw [← hv, show vP [((a + 0) % 67108864 + 5 * k5) % 67108864, (b + k1) % 67108864 + ((a + 0) % 67108864 + 5 * k5) / 67108864, (c + k2) % 67108864, (d + k3) % 67108864, (e + k4) % 67108864] = vP [a, b, c, d, e] - Q * k5 by
        simp only [vP, List.foldr_cons, List.foldr_nil, Q]
        omega]
      exact Int.sub_mul_emod_self_left _ _ _
theorem cutA (xs : List Int) (k : Int) (n : Nat) (h : k = n) : (if ((xs.length : Nat) : Int) < k then ((xs.length : Nat) : Int) else k).toNat = min n xs.length := by
  subst h
  split <;> omega
theorem cutT (xs : List Int) (t : Nat) : (xs.drop t).take (xs.length - t) = xs.drop t := by rw [List.take_of_length_le (by simp)]
def fac (ys : List Int) (n : Nat) : Int := if n / 5 + n % 5 ≥ 5 then 5 else 1
def trm (xs ys : List Int) (n : Nat) : Int := xs.getD (n / 5) 0 * ys.getD (n % 5) 0 * fac ys n
def colP (xs ys : List Int) : Nat → Nat → Int
  | 0, _ => 0
  | n + 1, j => colP xs ys n j + if (n / 5 + n % 5) % 5 = j then trm xs ys n else 0
theorem prod_bd {a b : Int} (ha : 0 ≤ a ∧ a < 134225920) (hb : 0 ≤ b ∧ b < 67108864) : 0 ≤ a * b ∧ a * b ≤ 9007749010554880 :=
  ⟨Int.mul_nonneg ha.1 hb.1, by have h := Int.mul_le_mul (show a ≤ 134225920 by omega) (show b ≤ 67108864 by omega) hb.1 (by decide); omega⟩
theorem trm_bd {xs ys : List Int} (hx : L5 134225920 xs) (hy : L5 67108864 ys) {n : Nat} (hn : n < 25) : 0 ≤ trm xs ys n ∧ trm xs ys n ≤ 45038745052774400 := by
  have h1 := hx.at (i := n / 5) (by omega)
  have h2 := hy.at (i := n % 5) (Nat.mod_lt _ (by decide))
  have h := prod_bd h1 h2
  unfold trm fac
  split <;> omega
theorem colP_bd {xs ys : List Int} (hx : L5 134225920 xs) (hy : L5 67108864 ys) (j : Nat) : ∀ {n : Nat}, n ≤ 25 → 0 ≤ colP xs ys n j ∧ colP xs ys n j ≤ n * 45038745052774400
  | 0, _ => ⟨Int.le_refl _, by simp [colP]⟩
  | n + 1, hn => by
    have h1 := colP_bd hx hy j (n := n) (by omega)
    have h2 := trm_bd hx hy (n := n) (by omega)
    rw [colP]
    split <;> omega
def colsP (xs ys : List Int) (n : Nat) : List Int := [colP xs ys n 0, colP xs ys n 1, colP xs ys n 2, colP xs ys n 3, colP xs ys n 4]
theorem colsP_at (xs ys : List Int) (n j : Nat) (hj : j < 5) : (colsP xs ys n).getD j 0 = colP xs ys n j := by
  rcases (show j = 0 ∨ j = 1 ∨ j = 2 ∨ j = 3 ∨ j = 4 by omega) with rfl | rfl | rfl | rfl | rfl <;> rfl
theorem colsP_step {xs ys : List Int} {n j : Nat} (hj : (n / 5 + n % 5) % 5 = j) : (colsP xs ys n).set j (colP xs ys n j + trm xs ys n) = colsP xs ys (n + 1) := by
  subst hj
  have hlt : (n / 5 + n % 5) % 5 < 5 := Nat.mod_lt _ (by decide)
  simp only [colsP, colP]
  generalize (n / 5 + n % 5) % 5 = j at *
  rcases (show j = 0 ∨ j = 1 ∨ j = 2 ∨ j = 3 ∨ j = 4 by omega) with rfl | rfl | rfl | rfl | rfl <;> simp
theorem t_step {xs ys os : List Int} {i k : Int} {t : Int} (hx : L5 134225920 xs) (hy : L5 67108864 ys) (hi : 0 ≤ i) (hi5 : i < 5) (hk : 0 ≤ k) (hk5 : k < 5) (ho : os = colsP xs ys (5 * i.toNat + k.toNat)) (ht : t = trm xs ys (5 * i.toNat + k.toNat)) :
    os.set ((i + k) % 5).toNat (IntKind.wrap .u64 (os.getD ((i + k) % 5).toNat 0 + t)) = colsP xs ys (5 * i.toNat + k.toNat + 1) := by
  have hj := F.at_col hi hi5 hk hk5
  have h1 := colP_bd hx hy ((i + k) % 5).toNat (n := 5 * i.toNat + k.toNat) (by omega)
  have h2 := trm_bd hx hy (n := 5 * i.toNat + k.toNat) (by omega)
  rw [ho, colsP_at _ _ _ _ (by omega), ht, wrap64 (by omega) (by omega)]
  exact colsP_step hj
theorem t_term {xs ys : List Int} {i k : Int} (hx : L5 134225920 xs) (hy : L5 67108864 ys) (hi : 0 ≤ i) (hi5 : i < 5) (hk : 0 ≤ k) (hk5 : k < 5) :
    (i + k ≥ 5 → IntKind.wrap .u64 (IntKind.wrap .u64 (xs.getD i.toNat 0 * ys.getD k.toNat 0) * 5) = trm xs ys (5 * i.toNat + k.toNat)) ∧ (¬ i + k ≥ 5 → IntKind.wrap .u64 (xs.getD i.toNat 0 * ys.getD k.toNat 0) = trm xs ys (5 * i.toNat + k.toNat)) := by
  have h1 := hx.at (i := i.toNat) (by omega)
  have h2 := hy.at (i := k.toNat) (by omega)
  have h := prod_bd h1 h2
  rw [trm, fac, show (5 * i.toNat + k.toNat) / 5 = i.toNat by omega, show (5 * i.toNat + k.toNat) % 5 = k.toNat by omega, wrap64 (x := xs.getD i.toNat 0 * ys.getD k.toNat 0) (by omega) (by omega)]
  refine ⟨fun hh => ?_, fun hh => ?_⟩
  · rw [if_pos (by omega), wrap64 (by omega) (by omega)]
  · rw [if_neg (by omega), Int.mul_one]
theorem t_end {xs ys : List Int} {v w : Int} (hx : L5 134225920 xs) (hy : L5 67108864 ys) (hv : vP xs % Q = v) (hw : vP ys % Q = w) : L5 1152921504606846976 (colsP xs ys 25) ∧ vP (colsP xs ys 25) % Q = v * w % Q := by
  have b := fun j => colP_bd hx hy j (n := 25) (by decide)
  have b0 := b 0; have b1 := b 1; have b2 := b 2; have b3 := b 3; have b4 := b 4
  refine ⟨⟨rfl, fun x hx => ?_⟩, ?_⟩
  · simp only [colsP, List.mem_cons, List.not_mem_nil, or_false] at hx
    rcases hx with rfl | rfl | rfl | rfl | rfl <;> omega
  · rw [← hv, ← hw, ← Int.mul_emod]
    obtain ⟨lx, _⟩ := hx
    obtain ⟨ly, _⟩ := hy
    match xs, lx, ys, ly with
    | [a0, a1, a2, a3, a4], _, [b0, b1, b2, b3, b4], _ =>
      have e : colsP [a0, a1, a2, a3, a4] [b0, b1, b2, b3, b4] 25 = [a0 * b0 + 5 * (a1 * b4 + a2 * b3 + a3 * b2 + a4 * b1), a0 * b1 + a1 * b0 + 5 * (a2 * b4 + a3 * b3 + a4 * b2), a0 * b2 + a1 * b1 + a2 * b0 + 5 * (a3 * b4 + a4 * b3), a0 * b3 + a1 * b2 + a2 * b1 + a3 * b0 + 5 * (a4 * b4), a0 * b4 + a1 * b3 + a2 * b2 + a3 * b1 + a4 * b0] := by
        show [0 + a0 * b0 * 1 + 0 + 0 + 0 + 0 + 0 + 0 + 0 + 0 + a1 * b4 * 5 + 0 + 0 + 0 + a2 * b3 * 5 + 0 + 0 + 0 + a3 * b2 * 5 + 0 + 0 + 0 + a4 * b1 * 5 + 0 + 0 + 0,
          0 + 0 + a0 * b1 * 1 + 0 + 0 + 0 + a1 * b0 * 1 + 0 + 0 + 0 + 0 + 0 + 0 + 0 + 0 + a2 * b4 * 5 + 0 + 0 + 0 + a3 * b3 * 5 + 0 + 0 + 0 + a4 * b2 * 5 + 0 + 0,
          0 + 0 + 0 + a0 * b2 * 1 + 0 + 0 + 0 + a1 * b1 * 1 + 0 + 0 + 0 + a2 * b0 * 1 + 0 + 0 + 0 + 0 + 0 + 0 + 0 + 0 + a3 * b4 * 5 + 0 + 0 + 0 + a4 * b3 * 5 + 0,
          0 + 0 + 0 + 0 + a0 * b3 * 1 + 0 + 0 + 0 + a1 * b2 * 1 + 0 + 0 + 0 + a2 * b1 * 1 + 0 + 0 + 0 + a3 * b0 * 1 + 0 + 0 + 0 + 0 + 0 + 0 + 0 + 0 + a4 * b4 * 5,
          0 + 0 + 0 + 0 + 0 + a0 * b4 * 1 + 0 + 0 + 0 + a1 * b3 * 1 + 0 + 0 + 0 + a2 * b2 * 1 + 0 + 0 + 0 + a3 * b1 * 1 + 0 + 0 + 0 + a4 * b0 * 1 + 0 + 0 + 0 + 0] = _
        congr 1
        · grind
        · congr 1
          · grind
          · congr 1
            · grind
            · congr 1
              · grind
              · congr 1
                grind
      rw [e]
      have e2 : vP [a0, a1, a2, a3, a4] * vP [b0, b1, b2, b3, b4] = vP [a0 * b0 + 5 * (a1 * b4 + a2 * b3 + a3 * b2 + a4 * b1), a0 * b1 + a1 * b0 + 5 * (a2 * b4 + a3 * b3 + a4 * b2), a0 * b2 + a1 * b1 + a2 * b0 + 5 * (a3 * b4 + a4 * b3), a0 * b3 + a1 * b2 + a2 * b1 + a3 * b0 + 5 * (a4 * b4), a0 * b4 + a1 * b3 + a2 * b2 + a3 * b1 + a4 * b0] +
          Q * ((a1 * b4 + a2 * b3 + a3 * b2 + a4 * b1) + 67108864 * ((a2 * b4 + a3 * b3 + a4 * b2) + 67108864 * ((a3 * b4 + a4 * b3) + 67108864 * (a4 * b4)))) := by
        simp only [vP, List.foldr_cons, List.foldr_nil, Q]
        grind
      rw [e2, Int.add_mul_emod_self_left]
structure PR (xs : List Int) (v : Int) : Prop where
  lim : L5 67108864 xs
  vl : vP xs = v
  hi : v < Q
theorem vP_bd {xs : List Int} (h : L5 67108864 xs) : 0 ≤ vP xs ∧ vP xs < 1361129467683753853853498429727072845824 := by
  obtain ⟨hl, hb⟩ := h
  match xs, hl with
  | [a, b, c, d, e], _ =>
    have q : ∀ x ∈ [a, b, c, d, e], 0 ≤ x ∧ x < 67108864 := hb
    simp only [List.mem_cons, List.not_mem_nil, or_false, forall_eq_or_imp, forall_eq] at q
    simp only [vP, List.foldr_cons, List.foldr_nil]
    omega
structure Tight (xs : List Int) : Prop where
  len : xs.length = 5
  b0 : 0 ≤ xs.getD 0 0 ∧ xs.getD 0 0 < 67108864
  b1 : 0 ≤ xs.getD 1 0 ∧ xs.getD 1 0 ≤ 67108864
  b2 : 0 ≤ xs.getD 2 0 ∧ xs.getD 2 0 < 67108864
  b3 : 0 ≤ xs.getD 3 0 ∧ xs.getD 3 0 < 67108864
  b4 : 0 ≤ xs.getD 4 0 ∧ xs.getD 4 0 < 67108864
theorem kk_tight {xs : List Int} (h : L5 67117056 xs) : Tight (kR xs) := by
  obtain ⟨hl, hb⟩ := h
  match xs, hl with
  | [a, b, c, d, e], _ =>
    have q : ∀ x ∈ [a, b, c, d, e], 0 ≤ x ∧ x < 67117056 := hb
    simp only [List.mem_cons, List.not_mem_nil, or_false, forall_eq_or_imp, forall_eq] at q
    have e1 := kL_is a b c d e
    have c1 : kC [a, b, c, d, e] 1 = (a + 0) / 67108864 := rfl
    have c2 : kC [a, b, c, d, e] 2 = (b + kC [a, b, c, d, e] 1) / 67108864 := rfl
    have c3 : kC [a, b, c, d, e] 3 = (c + kC [a, b, c, d, e] 2) / 67108864 := rfl
    have c4 : kC [a, b, c, d, e] 4 = (d + kC [a, b, c, d, e] 3) / 67108864 := rfl
    have c5 : kC [a, b, c, d, e] 5 = (e + kC [a, b, c, d, e] 4) / 67108864 := rfl
    rw [kR, e1]
    generalize kC [a, b, c, d, e] 1 = k1 at *
    generalize kC [a, b, c, d, e] 2 = k2 at *
    generalize kC [a, b, c, d, e] 3 = k3 at *
    generalize kC [a, b, c, d, e] 4 = k4 at *
    generalize kC [a, b, c, d, e] 5 = k5 at *
    show Tight [((a + 0) % 67108864 + 5 * k5) % 67108864, (b + k1) % 67108864 + ((a + 0) % 67108864 + 5 * k5) / 67108864, (c + k2) % 67108864, (d + k3) % 67108864, (e + k4) % 67108864]
    refine ⟨rfl, ?_, ?_, ?_, ?_, ?_⟩
    · show 0 ≤ ((a + 0) % 67108864 + 5 * k5) % 67108864 ∧ ((a + 0) % 67108864 + 5 * k5) % 67108864 < 67108864; omega
    · show 0 ≤ (b + k1) % 67108864 + ((a + 0) % 67108864 + 5 * k5) / 67108864 ∧ (b + k1) % 67108864 + ((a + 0) % 67108864 + 5 * k5) / 67108864 ≤ 67108864; omega
    · show 0 ≤ (c + k2) % 67108864 ∧ (c + k2) % 67108864 < 67108864; omega
    · show 0 ≤ (d + k3) % 67108864 ∧ (d + k3) % 67108864 < 67108864; omega
    · show 0 ≤ (e + k4) % 67108864 ∧ (e + k4) % 67108864 < 67108864; omega
theorem kk_lim {xs : List Int} (h : Tight xs) : L5 67108864 (kR xs) := by
  obtain ⟨hl, q0, q1, q2, q3, q4⟩ := h
  match xs, hl with
  | [a, b, c, d, e], _ =>
    have q0 : 0 ≤ a ∧ a < 67108864 := q0
    have q1 : 0 ≤ b ∧ b ≤ 67108864 := q1
    have q2 : 0 ≤ c ∧ c < 67108864 := q2
    have q3 : 0 ≤ d ∧ d < 67108864 := q3
    have q4 : 0 ≤ e ∧ e < 67108864 := q4
    have e1 := kL_is a b c d e
    have c1 : kC [a, b, c, d, e] 1 = (a + 0) / 67108864 := rfl
    have c2 : kC [a, b, c, d, e] 2 = (b + kC [a, b, c, d, e] 1) / 67108864 := rfl
    have c3 : kC [a, b, c, d, e] 3 = (c + kC [a, b, c, d, e] 2) / 67108864 := rfl
    have c4 : kC [a, b, c, d, e] 4 = (d + kC [a, b, c, d, e] 3) / 67108864 := rfl
    have c5 : kC [a, b, c, d, e] 5 = (e + kC [a, b, c, d, e] 4) / 67108864 := rfl
    rw [kR, e1]
    generalize kC [a, b, c, d, e] 1 = k1 at *
    generalize kC [a, b, c, d, e] 2 = k2 at *
    generalize kC [a, b, c, d, e] 3 = k3 at *
    generalize kC [a, b, c, d, e] 4 = k4 at *
    generalize kC [a, b, c, d, e] 5 = k5 at *
    show L5 67108864 [((a + 0) % 67108864 + 5 * k5) % 67108864, (b + k1) % 67108864 + ((a + 0) % 67108864 + 5 * k5) / 67108864, (c + k2) % 67108864, (d + k3) % 67108864, (e + k4) % 67108864]
    refine ⟨rfl, fun x hx => ?_⟩
    have hk1 : k1 = 0 := by omega
    have hk2 : 0 ≤ k2 ∧ k2 ≤ 1 := by omega
    have hk : k2 = 0 → k5 = 0 := fun h => by omega
    have hk5 : 0 ≤ k5 ∧ k5 ≤ 1 := by omega
    simp only [List.mem_cons, List.not_mem_nil, or_false] at hx
    rcases hx with rfl | rfl | rfl | rfl | rfl
    · omega
    · rcases (show k2 = 0 ∨ k2 = 1 by omega) with h0 | h0
      · have := hk h0; omega
      · omega
    · omega
    · omega
    · omega
theorem kk_two {xs : List Int} {v : Int} (h : PE xs v) : L5 67108864 (kR (kR xs)) ∧ vP (kR (kR xs)) % Q = v := by
  have h1 := kR_pe (h.lim.mono (by decide)) h.vl
  exact ⟨kk_lim (kk_tight h.lim), (kR_pe (h1.lim.mono (by decide)) h1.vl).vl⟩
def up5 (xs : List Int) : List Int := xs.set 0 (xs.getD 0 0 + 5)
def mS (us : List Int) (n : Nat) : List Int := (kL us n).set n (us.getD n 0 + kC us n)
theorem up5_lim {xs : List Int} (h : L5 67108864 xs) : L5 67108870 (up5 xs) := by
  have h0 := h.at (i := 0) (by decide)
  refine ⟨by rw [up5, List.length_set, h.1], fun x hx => ?_⟩
  rcases List.mem_or_eq_of_mem_set hx with hx | rfl
  · have := h.2 x hx; omega
  · omega
theorem m_start {xs : List Int} (h : L5 67108864 xs) : xs.set 0 (IntKind.wrap .u64 (xs.getD 0 0 + 5)) = mS (up5 xs) 0 := by
  have h0 := h.at (i := 0) (by decide)
  rw [wrap64 (by omega) (by omega), mS, kL, N.mapP_zero, up5, kC, set_at (by rw [h.1]; decide), Int.add_zero, List.set_set]
theorem m_step {us os : List Int} {n : Nat} (h : L5 67108870 us) (hn : n < 4) (ho : os = mS us n) :
    (os.set (n + 1) (IntKind.wrap .u64 (os.getD (n + 1) 0 + os.getD n 0 / 2 ^ 26))).set n (bits2 .and .u64 ((os.set (n + 1) (IntKind.wrap .u64 (os.getD (n + 1) 0 + os.getD n 0 / 2 ^ 26))).getD n 0) 67108863) = mS us (n + 1) := by
  have hk := kC_bd (h.mono (by decide)) n (by omega)
  have h1 := h.at (i := n) (by omega)
  have h2 := h.at (i := n + 1) (by omega)
  have hl : (kL us n).length = 5 := by rw [kL, mapP_len _ _ _ (by rw [h.1]; omega), h.1]
  have e1 : os.getD n 0 = us.getD n 0 + kC us n := by rw [ho, mS, set_at (by omega)]
  have e2 : os.getD (n + 1) 0 = us.getD (n + 1) 0 := by rw [ho, mS, F.getD_set_ne (by omega), kL, mapP_tail (by omega) (by rw [h.1]; omega)]
  have e3 : (us.getD n 0 + kC us n) / 2 ^ 26 = kC us (n + 1) := rfl
  have hk2 := kC_bd (h.mono (by decide)) (n + 1) (by omega)
  rw [e1, e2, e3, wrap64 (by omega) (by omega), F.getD_set_ne (by omega), e1, and26 (by omega), ho, mS, mS, List.set_comm _ _ (by omega), List.set_set]
  have e4 : (kL us n).set n ((us.getD n 0 + kC us n) % 67108864) = kL us (n + 1) := mapP_step (fun i => (us.getD i 0 + kC us i) % 67108864) _ _ (by rw [h.1]; omega)
  rw [e4]
theorem m_end {xs os : List Int} {v : Int} (h : L5 67108864 xs) (hv : vP xs % Q = v) (ho : os = mS (up5 xs) 4) :
    (os.getD 4 0 / 2 ^ 26 ≠ 0 → PR (os.set 4 (bits2 .and .u64 (os.getD 4 0) 67108863)) v) ∧ (os.getD 4 0 / 2 ^ 26 = 0 → PR xs v) := by
  have hb := vP_bd h
  have h0 := h.at (i := 0) (by decide)
  have hu := up5_lim h
  obtain ⟨hl, hbb⟩ := h
  match xs, hl with
  | [a, b, c, d, e], _ =>
    have q : ∀ x ∈ [a, b, c, d, e], 0 ≤ x ∧ x < 67108864 := hbb
    simp only [List.mem_cons, List.not_mem_nil, or_false, forall_eq_or_imp, forall_eq] at q
    have eu : up5 [a, b, c, d, e] = [a + 5, b, c, d, e] := rfl
    rw [eu] at ho
    have c1 : kC [a + 5, b, c, d, e] 1 = (a + 5 + 0) / 67108864 := rfl
    have c2 : kC [a + 5, b, c, d, e] 2 = (b + kC [a + 5, b, c, d, e] 1) / 67108864 := rfl
    have c3 : kC [a + 5, b, c, d, e] 3 = (c + kC [a + 5, b, c, d, e] 2) / 67108864 := rfl
    have c4 : kC [a + 5, b, c, d, e] 4 = (d + kC [a + 5, b, c, d, e] 3) / 67108864 := rfl
    have hm : os = [(a + 5 + 0) % 67108864, (b + kC [a + 5, b, c, d, e] 1) % 67108864, (c + kC [a + 5, b, c, d, e] 2) % 67108864, (d + kC [a + 5, b, c, d, e] 3) % 67108864, e + kC [a + 5, b, c, d, e] 4] := ho
    generalize kC [a + 5, b, c, d, e] 1 = k1 at *
    generalize kC [a + 5, b, c, d, e] 2 = k2 at *
    generalize kC [a + 5, b, c, d, e] 3 = k3 at *
    generalize kC [a + 5, b, c, d, e] 4 = k4 at *
    have e4 : os.getD 4 0 = e + k4 := by rw [hm]; rfl
    have hk4 : 0 ≤ k4 ∧ k4 ≤ 1 := by omega
    have hV : vP [a, b, c, d, e] = a + 67108864 * (b + 67108864 * (c + 67108864 * (d + 67108864 * e))) := by simp only [vP, List.foldr_cons, List.foldr_nil]; omega
    rw [e4]
    refine ⟨fun hne => ?_, fun he => ?_⟩
    · have hge : 67108864 ≤ e + k4 := by omega
      rw [hm, and26 (by omega)]
      show PR [(a + 5 + 0) % 67108864, (b + k1) % 67108864, (c + k2) % 67108864, (d + k3) % 67108864, (e + k4) % 67108864] v
      have hsum : vP [(a + 5 + 0) % 67108864, (b + k1) % 67108864, (c + k2) % 67108864, (d + k3) % 67108864, (e + k4) % 67108864] = vP [a, b, c, d, e] - Q := by
        simp only [vP, List.foldr_cons, List.foldr_nil, Q]
        omega
      refine ⟨⟨rfl, fun x hx => ?_⟩, ?_, ?_⟩
      · simp only [List.mem_cons, List.not_mem_nil, or_false] at hx
        rcases hx with rfl | rfl | rfl | rfl | rfl <;> omega
      · have hge2 : Q ≤ vP [a, b, c, d, e] := by rw [hV]; simp only [Q]; omega
        rw [hsum, ← hv]
        have e5 := Int.emod_eq_of_lt (a := vP [a, b, c, d, e] - Q) (b := Q) (by omega) (by simp only [Q] at *; omega)
        rw [← e5, Int.sub_emod, Int.emod_self, Int.sub_zero, Int.emod_emod]
      · rw [← hv]; exact Int.emod_lt_of_pos _ (by decide)
    · have hlt : e + k4 < 67108864 := by omega
      have hltQ : vP [a, b, c, d, e] < Q := by rw [hV]; simp only [Q]; omega
      exact ⟨⟨rfl, hbb⟩, by rw [← hv]; exact (Int.emod_eq_of_lt hb.1 hltQ).symm, by rw [← hv]; exact Int.emod_lt_of_pos _ (by decide)⟩
theorem or64 (k : Nat) {a b : Int} (ha : 0 ≤ a ∧ a < 2 ^ k) (hb : 0 ≤ b) (hk : k ≤ 64) : bits2 .or .u64 a (IntKind.wrap .u64 (b * 2 ^ k)) = a + (b * 2 ^ k) % 18446744073709551616 := by
  have hk2 : (2 : Int) ^ k * 2 ^ (64 - k) = 18446744073709551616 := by rw [← Int.pow_add, show k + (64 - k) = 64 by omega]; rfl
  have hp : (0 : Int) < 2 ^ (64 - k) := Int.pow_pos (by decide)
  have hpk : (0 : Int) < 2 ^ k := Int.pow_pos (by decide)
  have e : (b * 2 ^ k) % 18446744073709551616 = (b % 2 ^ (64 - k)) * 2 ^ k := by
    rw [← hk2, Int.mul_comm b, Int.mul_emod_mul_of_pos _ _ hpk, Int.mul_comm]
  have hm := Int.emod_nonneg b (Int.ne_of_gt hp)
  have hle : (2 : Int) ^ k ≤ 18446744073709551616 := by
    rw [← hk2]
    have := Int.mul_le_mul_of_nonneg_left (show (1 : Int) ≤ 2 ^ (64 - k) by omega) (Int.le_of_lt hpk)
    omega
  rw [wrap_mod, bits_or .u64 rfl _ _ ⟨ha.1, show _ < (18446744073709551616 : Int) by omega⟩ ⟨by omega, show _ < (18446744073709551616 : Int) by omega⟩, e]
  exact or_add _ _ _ ha hm
theorem bytes_low {zs : List Int} {v : Int} (h : PR zs v) : bits2 .or .u64 (bits2 .or .u64 (zs.getD 0 0) (IntKind.wrap .u64 (zs.getD 1 0 * 2 ^ 26))) (IntKind.wrap .u64 (zs.getD 2 0 * 2 ^ 52)) = v % 18446744073709551616 ∧
    bits2 .or .u64 (bits2 .or .u64 (zs.getD 2 0 / 2 ^ 12) (IntKind.wrap .u64 (zs.getD 3 0 * 2 ^ 14))) (IntKind.wrap .u64 (zs.getD 4 0 * 2 ^ 40)) = v / 18446744073709551616 % 18446744073709551616 := by
  obtain ⟨⟨hl, hb⟩, hv, _⟩ := h
  match zs, hl with
  | [a, b, c, d, e], _ =>
    have q : ∀ x ∈ [a, b, c, d, e], 0 ≤ x ∧ x < 67108864 := hb
    simp only [List.mem_cons, List.not_mem_nil, or_false, forall_eq_or_imp, forall_eq] at q
    obtain ⟨qa, qb, qc, qd, qe⟩ := q
    have hv2 : a + 67108864 * (b + 67108864 * (c + 67108864 * (d + 67108864 * e))) = v := by rw [← hv]; simp only [vP, List.foldr_cons, List.foldr_nil]; omega
    show bits2 .or .u64 (bits2 .or .u64 a (IntKind.wrap .u64 (b * 2 ^ 26))) (IntKind.wrap .u64 (c * 2 ^ 52)) = _ ∧ bits2 .or .u64 (bits2 .or .u64 (c / 2 ^ 12) (IntKind.wrap .u64 (d * 2 ^ 14))) (IntKind.wrap .u64 (e * 2 ^ 40)) = _
    rw [or64 26 (by omega) (by omega) (by decide), or64 52 (by omega) (by omega) (by decide), or64 14 (by omega) (by omega) (by decide), or64 40 (by omega) (by omega) (by decide)]
    refine ⟨by omega, by omega⟩
theorem bytes_sum {v a b low high : Int} (ha : 0 ≤ a ∧ a < 18446744073709551616) (hb : 0 ≤ b ∧ b < 18446744073709551616) (hl : low = v % 18446744073709551616) (hh : high = v / 18446744073709551616 % 18446744073709551616) :
    (IntKind.wrap .u64 (low + a) < a → leB (IntKind.wrap .u64 (low + a)) 8 ++ leB (IntKind.wrap .u64 (IntKind.wrap .u64 (high + b) + 1)) 8 = leB (v + (a + 18446744073709551616 * b)) 16) ∧
    (¬ IntKind.wrap .u64 (low + a) < a → leB (IntKind.wrap .u64 (low + a)) 8 ++ leB (IntKind.wrap .u64 (high + b)) 8 = leB (v + (a + 18446744073709551616 * b)) 16) := by
  have p8 : (256 : Int) ^ 8 = 18446744073709551616 := by decide
  have s1 := leB_add 8 8 (v + (a + 18446744073709551616 * b))
  have m1 := leB_mod 8 (v + (a + 18446744073709551616 * b))
  have m2 := leB_mod 8 ((v + (a + 18446744073709551616 * b)) / 256 ^ 8)
  rw [show (16 : Nat) = 8 + 8 from rfl, s1, ← m1, ← m2, p8]
  simp only [wrap_mod]
  refine ⟨fun h => ?_, fun h => ?_⟩
  · congr 1
    · congr 1; omega
    · congr 1; omega
  · congr 1
    · congr 1; omega
    · congr 1; omega
theorem tag_bytes {ns xs : List Int} {v : Int} (hP : PR ns v) (hx : In .u8 xs) :
    (IntKind.wrap .u64 (bits2 .or .u64 (bits2 .or .u64 (ns.getD 0 0) (IntKind.wrap .u64 (ns.getD 1 0 * 2 ^ 26))) (IntKind.wrap .u64 (ns.getD 2 0 * 2 ^ 52)) + leN xs 8) < leN xs 8 →
      leB (IntKind.wrap .u64 (bits2 .or .u64 (bits2 .or .u64 (ns.getD 0 0) (IntKind.wrap .u64 (ns.getD 1 0 * 2 ^ 26))) (IntKind.wrap .u64 (ns.getD 2 0 * 2 ^ 52)) + leN xs 8)) 8 ++
        leB (IntKind.wrap .u64 (IntKind.wrap .u64 (bits2 .or .u64 (bits2 .or .u64 (ns.getD 2 0 / 2 ^ 12) (IntKind.wrap .u64 (ns.getD 3 0 * 2 ^ 14))) (IntKind.wrap .u64 (ns.getD 4 0 * 2 ^ 40)) + leN ((xs.drop 8).take (xs.length - 8)) 8) + 1)) 8 = leB (v + leN xs 16) 16) ∧
    (¬ IntKind.wrap .u64 (bits2 .or .u64 (bits2 .or .u64 (ns.getD 0 0) (IntKind.wrap .u64 (ns.getD 1 0 * 2 ^ 26))) (IntKind.wrap .u64 (ns.getD 2 0 * 2 ^ 52)) + leN xs 8) < leN xs 8 →
      leB (IntKind.wrap .u64 (bits2 .or .u64 (bits2 .or .u64 (ns.getD 0 0) (IntKind.wrap .u64 (ns.getD 1 0 * 2 ^ 26))) (IntKind.wrap .u64 (ns.getD 2 0 * 2 ^ 52)) + leN xs 8)) 8 ++
        leB (IntKind.wrap .u64 (bits2 .or .u64 (bits2 .or .u64 (ns.getD 2 0 / 2 ^ 12) (IntKind.wrap .u64 (ns.getD 3 0 * 2 ^ 14))) (IntKind.wrap .u64 (ns.getD 4 0 * 2 ^ 40)) + leN ((xs.drop 8).take (xs.length - 8)) 8)) 8 = leB (v + leN xs 16) 16) := by
  have p8 : (256 : Int) ^ 8 = 18446744073709551616 := by decide
  have e := leN_split xs 8 8
  rw [p8, show 8 + 8 = 16 from rfl] at e
  have h1 := leN_bd hx 8
  have h2 := leN_bd (hx.drop 8) 8
  rw [p8] at h1 h2
  rw [cutT, e]
  exact bytes_sum h1 h2 (bytes_low hP).1 (bytes_low hP).2
def cA (xs : List Int) : Nat → List Int
  | 0 => xs
  | k + 1 => (cA xs k).set (([3, 7, 11, 15] : List Int).getD k 0).toNat (bits2 .and .u8 ((cA xs k).getD (([3, 7, 11, 15] : List Int).getD k 0).toNat 0) 15)
def cB (xs : List Int) : Nat → List Int
  | 0 => xs
  | k + 1 => (cB xs k).set (([4, 8, 12] : List Int).getD k 0).toNat (bits2 .and .u8 ((cB xs k).getD (([4, 8, 12] : List Int).getD k 0).toNat 0) 252)
theorem and15' {x : Int} (h : 0 ≤ x ∧ x < 256) : bits2 .and .u8 x 15 = x % 16 := by
  rw [bits_and .u8 rfl x _ ⟨h.1, h.2⟩ ⟨by decide, by decide⟩, show (15 : Int).toNat = 2 ^ 4 - 1 from rfl, Nat.and_two_pow_sub_one_eq_mod]
  omega
theorem and252 {x : Int} (h : 0 ≤ x ∧ x < 256) : bits2 .and .u8 x 252 = x / 4 * 4 := by
  have key : ∀ n : Fin 256, bits2 .and .u8 (n.val : Int) 252 = (n.val : Int) / 4 * 4 := by decide +kernel
  have := key ⟨x.toNat, by omega⟩
  rw [show ((⟨x.toNat, by omega⟩ : Fin 256).val : Int) = x by show ((x.toNat : Nat) : Int) = x; omega] at this
  exact this
theorem take16 {xs : List Int} (h : 16 ≤ xs.length) : ∃ a0 a1 a2 a3 a4 a5 a6 a7 a8 a9 b0 b1 b2 b3 b4 b5 : Int, xs.take 16 = [a0, a1, a2, a3, a4, a5, a6, a7, a8, a9, b0, b1, b2, b3, b4, b5] := by
  have hl : (xs.take 16).length = 16 := by rw [List.length_take]; omega
  generalize xs.take 16 = ys at *
  match ys, hl with
  | [a0, a1, a2, a3, a4, a5, a6, a7, a8, a9, b0, b1, b2, b3, b4, b5], _ => exact ⟨a0, a1, a2, a3, a4, a5, a6, a7, a8, a9, b0, b1, b2, b3, b4, b5, rfl⟩
theorem clamp_take {xs : List Int} (h : 16 ≤ xs.length) : clamp xs = clamp (xs.take 16) := by
  rw [clamp, clamp]
  apply List.map_congr_left
  intro i hi
  rw [List.mem_range] at hi
  have e : (xs.take 16).getD i 0 = xs.getD i 0 := by simp [List.getD_eq_getElem?_getD, List.getElem?_take, hi]
  rw [e]
theorem cAB {xs : List Int} (hx : In .u8 xs) (h : 16 ≤ xs.length) : cB (cA (xs.take 16) 4) 3 = clamp xs := by
  rw [clamp_take h]
  have hi := hx.take 16
  obtain ⟨a0, a1, a2, a3, a4, a5, a6, a7, a8, a9, b0, b1, b2, b3, b4, b5, e⟩ := take16 h
  rw [e] at hi ⊢
  have hh : ∀ z ∈ [a0, a1, a2, a3, a4, a5, a6, a7, a8, a9, b0, b1, b2, b3, b4, b5], 0 ≤ z ∧ z < 256 := fun z hz => hi z hz
  simp only [List.mem_cons, List.not_mem_nil, or_false, forall_eq_or_imp, forall_eq] at hh
  obtain ⟨q0, q1, q2, q3, q4, q5, q6, q7, q8, q9, r0, r1, r2, r3, r4, r5⟩ := hh
  show [a0, a1, a2, bits2 .and .u8 a3 15, bits2 .and .u8 a4 252, a5, a6, bits2 .and .u8 a7 15, bits2 .and .u8 a8 252, a9, b0, bits2 .and .u8 b1 15, bits2 .and .u8 b2 252, b3, b4, bits2 .and .u8 b5 15] = [a0, a1, a2, a3 % 16, a4 / 4 * 4, a5, a6, a7 % 16, a8 / 4 * 4, a9, b0, b1 % 16, b2 / 4 * 4, b3, b4, b5 % 16]
  rw [and15' q3, and15' q7, and15' r1, and15' r5, and252 q4, and252 q8, and252 r2]
theorem leN_17 {xs : List Int} (h : xs.length = 16) : leN xs 17 = leN xs 16 := leN_ge (by omega) 1
theorem blk_17 {bs : List Int} (h : bs.length ≤ 16) : leN (bs ++ [1]) 17 = blkN bs := by
  have e := leN_ge (as := bs ++ [1]) (n := bs.length + 1) (by simp) (16 - bs.length)
  rw [show bs.length + 1 + (16 - bs.length) = 17 by omega] at e
  exact e
theorem tag_cut {xs : List Int} (h : xs.length = 32) : leN ((xs.drop 16).take (xs.length - 16)) 16 = leN (xs.drop 16) 16 := by rw [cutT]
theorem pe_zero : PE (List.replicate 5 (0 : Int)) 0 := ⟨⟨rfl, fun x hx => by rw [List.eq_of_mem_replicate hx]; decide⟩, by decide⟩
theorem pe_cast {xs : List Int} {v w : Int} (h : PE xs v) (e : v = w) : PE xs w := by rw [← e]; exact h
theorem add_val {ns bs : List Int} {a : Int} (hE : PE ns a) (hb : In .u8 bs) (hl : bs.length ≤ 16) : vP (addP ns (limbs (leN (bs ++ [1]) 17)) 5) % Q = (a + blkN bs) % Q := by
  have h := blk_bd hb hl
  have e1 := (addP_end hE.lim (limbs_lim (leN (bs ++ [1]) 17))).2
  rw [e1, blk_17 hl, limbs_val h.1 (by omega), Int.add_emod, hE.vl]
  rw [Int.add_emod, Int.emod_emod, ← Int.add_emod]
theorem r_val {xs : List Int} (hx : In .u8 xs) : vP (limbs (rOf xs)) % Q = rOf xs % Q := by
  have h := rOf_bd hx
  rw [limbs_val h.1 (by omega)]
end Go.Proofs.Ytkehpipialmneaa.SL.Y
