/- The digest: plain laws. -/
import Derived.Test.YtkehpipialmneaaCPure
import Derived.Test.YtkehpipialmneaaSLt
namespace Go.Proofs.Ytkehpipialmneaa.SL.H
set_option linter.unusedVariables false
set_option linter.unusedSimpArgs false
open Go Go.Proofs.Ytkehpipialmneaa.SL Go.Proofs.Ytkehpipialmneaa.SL.W Go.Proofs.Ytkehpipialmneaa.SL.C

theorem or_comm (k : IntKind) (a b : Int) : bits2 .or k a b = bits2 .or k b a := by simp only [bits2]; rw [BitVec.or_comm]
theorem and31n (k : Int) (h : -32 < k ∧ k < 0) : bits2 .and .u64 (IntKind.wrap .u64 k) 31 = k + 32 := by
  have key : ∀ n : Fin 31, bits2 .and .u64 (IntKind.wrap .u64 (-((n.val : Int) + 1))) 31 = -((n.val : Int) + 1) + 32 := by decide +kernel
  have := key ⟨(-k - 1).toNat, by omega⟩
  simp only at this
  rwa [show -(((-k - 1).toNat : Int) + 1) = k by omega] at this
def kwb (xs : List Int) (n : Nat) : List Int := (List.range n).map fun i => beN (xs.drop (4 * i)) 4
theorem kwb_len (xs : List Int) (n : Nat) : (kwb xs n).length = n := by simp [kwb]
theorem kwb_succ (xs : List Int) (n : Nat) : kwb xs (n + 1) = kwb xs n ++ [beN (xs.drop (4 * n)) 4] := by simp [kwb, List.range_succ]
def x3 (a b c : Int) : Int := bits2 .xor .u32 (bits2 .xor .u32 a b) c
def sg0 (x : Int) : Int := x3 (rotl x 25) (rotl x 14) (x / 2 ^ 3)
def sg1 (x : Int) : Int := x3 (rotl x 15) (rotl x 13) (x / 2 ^ 10)
def big0 (x : Int) : Int := x3 (rotl x 30) (rotl x 19) (rotl x 10)
def big1 (x : Int) : Int := x3 (rotl x 26) (rotl x 21) (rotl x 7)
/-- The words of a block, 16 + n of them. -/
def sch (b : List Int) : Nat → List Int
  | 0 => kwb b 16
  | n + 1 => sch b n ++ [add32 (add32 (add32 ((sch b n).getD n 0) (sg0 ((sch b n).getD (n + 1) 0))) ((sch b n).getD (n + 9) 0)) (sg1 ((sch b n).getD (n + 14) 0))]
theorem sch_len (b : List Int) : ∀ n, (sch b n).length = 16 + n
  | 0 => by simp [sch, kwb]
  | n + 1 => by rw [sch, List.length_append, sch_len b n]; simp; omega
def ks : List Int := [0x428a2f98, 0x71374491, 0xb5c0fbcf, 0xe9b5dba5, 0x3956c25b, 0x59f111f1, 0x923f82a4, 0xab1c5ed5, 0xd807aa98, 0x12835b01, 0x243185be, 0x550c7dc3, 0x72be5d74, 0x80deb1fe, 0x9bdc06a7, 0xc19bf174, 0xe49b69c1, 0xefbe4786, 0x0fc19dc6, 0x240ca1cc, 0x2de92c6f, 0x4a7484aa, 0x5cb0a9dc, 0x76f988da, 0x983e5152, 0xa831c66d, 0xb00327c8, 0xbf597fc7, 0xc6e00bf3, 0xd5a79147, 0x06ca6351, 0x14292967, 0x27b70a85, 0x2e1b2138, 0x4d2c6dfc, 0x53380d13, 0x650a7354, 0x766a0abb, 0x81c2c92e, 0x92722c85, 0xa2bfe8a1, 0xa81a664b, 0xc24b8b70, 0xc76c51a3, 0xd192e819, 0xd6990624, 0xf40e3585, 0x106aa070, 0x19a4c116, 0x1e376c08, 0x2748774c, 0x34b0bcb5, 0x391c0cb3, 0x4ed8aa4a, 0x5b9cca4f, 0x682e6ff3, 0x748f82ee, 0x78a5636f, 0x84c87814, 0x8cc70208, 0x90befffa, 0xa4506ceb, 0xbef9a3f7, 0xc67178f2]
def h0 : List Int := [0x6a09e667, 0xbb67ae85, 0x3c6ef372, 0xa54ff53a, 0x510e527f, 0x9b05688c, 0x1f83d9ab, 0x5be0cd19]
def tt (v : List Int) (k w : Int) : Int := add32 (add32 (add32 (add32 (v.getD 7 0) (big1 (v.getD 4 0))) (bits2 .xor .u32 (bits2 .and .u32 (v.getD 4 0) (v.getD 5 0)) (bits2 .and .u32 (bits2 .xor .u32 4294967295 (v.getD 4 0)) (v.getD 6 0)))) k) w
def uu (v : List Int) : Int := add32 (big0 (v.getD 0 0)) (x3 (bits2 .and .u32 (v.getD 0 0) (v.getD 1 0)) (bits2 .and .u32 (v.getD 0 0) (v.getD 2 0)) (bits2 .and .u32 (v.getD 1 0) (v.getD 2 0)))
def rstep (v : List Int) (k w : Int) : List Int := [add32 (tt v k w) (uu v), v.getD 0 0, v.getD 1 0, v.getD 2 0, add32 (v.getD 3 0) (tt v k w), v.getD 4 0, v.getD 5 0, v.getD 6 0]
def rnds (st w : List Int) : Nat → List Int
  | 0 => st
  | n + 1 => rstep (rnds st w n) (ks.getD n 0) (w.getD n 0)
theorem eight {P : List Int → Prop} (h : ∀ a b c d e f g i : Int, P [a, b, c, d, e, f, g, i]) (xs : List Int) (hl : xs.length = 8) : P xs := by
  match xs, hl with
  | [a, b, c, d, e, f, g, i], _ => exact h a b c d e f g i
theorem rstep_eq (v : List Int) (h : v.length = 8) (k w : Int) : ((putl v 1 ((v.take 7).take 7)).set 4 (add32 ((putl v 1 ((v.take 7).take 7)).getD 4 0) (tt v k w))).set 0 (add32 (tt v k w) (uu v)) = rstep v k w :=
  eight (P := fun v => ((putl v 1 ((v.take 7).take 7)).set 4 (add32 ((putl v 1 ((v.take 7).take 7)).getD 4 0) (tt v k w))).set 0 (add32 (tt v k w) (uu v)) = rstep v k w) (fun _ _ _ _ _ _ _ _ => rfl) v h
def addl (s v : List Int) (n : Nat) : List Int := ((List.range n).map fun i => add32 (s.getD i 0) (v.getD i 0)) ++ s.drop n
theorem addl_len (s v : List Int) (n : Nat) (h : n ≤ s.length) : (addl s v n).length = s.length := by simp [addl]; omega
theorem addl_step (s v : List Int) (n : Nat) (h : n < s.length) : (addl s v n).set n (add32 ((addl s v n).getD n 0) (v.getD n 0)) = addl s v (n + 1) := by
  have e : (addl s v n).getD n 0 = s.getD n 0 := by
    rw [addl, getD_app_r (by simp)]
    simp [List.getD_eq_getElem?_getD]
  rw [e, addl, addl, List.range_succ, List.map_append, List.drop_eq_getElem_cons h]
  rw [List.set_append_right _ _ (by simp), show n - ((List.range n).map fun i => add32 (s.getD i 0) (v.getD i 0)).length = 0 by simp, List.set_cons_zero]
  simp
def comp (st b : List Int) : List Int := addl st (rnds st (sch b 48) 64) 8
theorem comp_len (st b : List Int) (h : st.length = 8) : (comp st b).length = 8 := by rw [comp, addl_len _ _ _ (by omega), h]
theorem beN_take (xs : List Int) (m : Nat) : ∀ n, n ≤ m → beN (xs.take m) n = beN xs n
  | 0, _ => rfl
  | n + 1, h => by
    rw [beN, beN, beN_take xs m n (by omega)]
    congr 1
    rw [List.getD_eq_getElem?_getD, List.getD_eq_getElem?_getD, List.getElem?_take, if_pos (by omega)]
theorem set_room {a : List Int} {i : Int} {m n : Nat} (h0 : 0 ≤ i) (ha : a.length = i.toNat) (hm : 0 < m) (hn : n = m - 1) (v : Int) : (a ++ List.replicate m 0).set i.toNat v = a ++ [v] ++ List.replicate n 0 := by
  subst hn
  rw [← ha]
  exact set_append hm v
theorem kwb_step {bs : List Int} {i : Int} (h0 : 0 ≤ i) (h1 : i < 16) : (kwb bs i.toNat ++ List.replicate (64 - i).toNat 0).set i.toNat (beN ((bs.drop (4 * i).toNat).take ((4 * i + 4).toNat - (4 * i).toNat)) 4) = kwb bs (i + 1).toNat ++ List.replicate (64 - (i + 1)).toNat 0 := by
  rw [set_room h0 (kwb_len _ _) (by omega) (n := (64 - (i + 1)).toNat) (by omega), show (i + 1).toNat = i.toNat + 1 by omega, kwb_succ, show (4 * i + 4).toNat - (4 * i).toNat = 4 by omega, beN_take _ _ _ (Nat.le_refl _), show (4 * i).toNat = 4 * i.toNat by omega]
theorem sch_step {bs us : List Int} {j : Int} (hu : us = sch bs (j - 16).toNat ++ List.replicate (64 - j).toNat 0) (h0 : 16 ≤ j) (h1 : j < 64) :
    us.set j.toNat (add32 (add32 (add32 (us.getD (j - 16).toNat 0) (sg0 (us.getD (j - 15).toNat 0))) (us.getD (j - 7).toNat 0)) (sg1 (us.getD (j - 2).toNat 0))) = sch bs (j + 1 - 16).toNat ++ List.replicate (64 - (j + 1)).toNat 0 := by
  have g : ∀ i : Nat, i < j.toNat → us.getD i 0 = (sch bs (j - 16).toNat).getD i 0 := fun i hi => by rw [hu, getD_app_l (by rw [sch_len]; omega)]
  rw [g _ (by omega), g _ (by omega), g _ (by omega), g _ (by omega), hu, set_room (by omega) (by rw [sch_len]; omega) (by omega) (n := (64 - (j + 1)).toNat) (by omega), show (j + 1 - 16).toNat = (j - 16).toNat + 1 by omega, sch]
  rw [show (j - 15).toNat = (j - 16).toNat + 1 by omega, show (j - 7).toNat = (j - 16).toNat + 9 by omega, show (j - 2).toNat = (j - 16).toNat + 14 by omega]
/-- The state behind the first q blocks. -/
def sta (M : List Int) : Nat → List Int
  | 0 => h0
  | q + 1 => comp (sta M q) ((M.drop (64 * q)).take 64)
theorem sta_len (M : List Int) : ∀ q, (sta M q).length = 8
  | 0 => rfl
  | q + 1 => comp_len _ _ (sta_len M q)
def padn (n : Nat) : Nat := (119 - n % 64) % 64
def padded (M : List Int) : List Int := M ++ [128] ++ List.replicate (padn M.length) 0 ++ (leB (8 * M.length) 8).reverse
def outB (s : List Int) : Nat → List Int
  | 0 => []
  | n + 1 => outB s n ++ (leB (s.getD n 0) 4).reverse
theorem outB_len (s : List Int) : ∀ n, (outB s n).length = 4 * n
  | 0 => rfl
  | n + 1 => by rw [outB, List.length_append, List.length_reverse, leB_len, outB_len s n]; omega
def digest (M : List Int) : List Int := outB (sta (padded M) ((padded M).length / 64)) 8
theorem digest_len (M : List Int) : (digest M).length = 32 := outB_len _ 8
theorem sta_append (M N : List Int) : ∀ q, 64 * q ≤ M.length → sta (M ++ N) q = sta M q
  | 0, _ => rfl
  | q + 1, h => by
    rw [sta, sta, sta_append M N q (by omega), List.drop_append_of_le_length (by omega), List.take_append_of_le_length (by rw [List.length_drop]; omega)]
/-- What a hash holds when it has been given M. -/
structure Held (M st wait : List Int) (m : Int) : Prop where
  st : st = sta M (M.length / 64)
  many : m = ((M.length % 64 : Nat) : Int)
  wl : wait.length = 64
  wi : In .u8 wait
  tail : wait.take (M.length % 64) = M.drop (64 * (M.length / 64))
theorem held0 : Held [] h0 (List.replicate 64 0) 0 := ⟨rfl, rfl, rfl, In.replicate _ _, rfl⟩
theorem take_min (rs : List Int) (L : Nat) : rs.take L = rs.take (min rs.length L) := by
  by_cases h : L ≤ rs.length
  · rw [Nat.min_eq_right h]
  · rw [Nat.min_eq_left (by omega), List.take_of_length_le (by omega), List.take_of_length_le (by omega)]
theorem held_parts {N s v rs : List Int} {k : Int} {L : Nat} (h : Held N s v k) (hL : L = 64 - k.toNat) : k.toNat = N.length % 64 ∧ (rs.take L).length = min rs.length L ∧ (N ++ rs.take (min rs.length L)).length = N.length + min rs.length L ∧
    (putl v k.toNat (rs.take L)).length = 64 ∧ (putl v k.toNat (rs.take L)).take (k.toNat + min rs.length L) = N.drop (64 * (N.length / 64)) ++ rs.take L ∧ (N ++ rs.take (min rs.length L)).drop (64 * (N.length / 64)) = N.drop (64 * (N.length / 64)) ++ rs.take L := by
  have hk : k.toNat = N.length % 64 := by rw [h.many]; omega
  have hlen : (rs.take L).length = min rs.length L := by rw [List.length_take]; omega
  refine ⟨hk, hlen, by simp, ?_, ?_, ?_⟩
  · rw [putl_len (by rw [h.wl, hlen]; omega), h.wl]
  · have e : (v.take k.toNat).length = k.toNat := by rw [List.length_take, h.wl]; omega
    rw [putl, List.take_append_of_le_length (by rw [List.length_append, e, hlen]; exact Nat.le_refl _), List.take_of_length_le (by rw [List.length_append, e, hlen]; exact Nat.le_refl _), hk, h.tail]
  · rw [List.drop_append_of_le_length (by omega), ← take_min rs L]
theorem held_lt {N s v rs : List Int} {k : Int} {L n : Nat} (h : Held N s v k) (hr : In .u8 rs) (hL : L = 64 - k.toNat) (hn : n = min rs.length L) (hk : k + (n : Int) < 64) : Held (N ++ rs.take n) s (putl v k.toNat (rs.take L)) (k + n) := by
  subst hn
  obtain ⟨h1, h2, h3, h4, h5, h6⟩ := held_parts (rs := rs) h hL
  have hm := h.many
  refine ⟨?_, ?_, h4, In.putl h.wi (hr.take _), ?_⟩
  · rw [h3, show (N.length + min rs.length L) / 64 = N.length / 64 by omega, sta_append _ _ _ (by omega), h.st]
  · rw [h3]; omega
  · rw [h3, show (N.length + min rs.length L) % 64 = k.toNat + min rs.length L by omega, h5, show (N.length + min rs.length L) / 64 = N.length / 64 by omega, h6]
theorem held_eq {N s v rs : List Int} {k : Int} {L n : Nat} (h : Held N s v k) (hr : In .u8 rs) (hL : L = 64 - k.toNat) (hn : n = min rs.length L) (hk : k + (n : Int) = 64) : Held (N ++ rs.take n) (comp s (putl v k.toNat (rs.take L))) (putl v k.toNat (rs.take L)) 0 := by
  subst hn
  obtain ⟨h1, h2, h3, h4, h5, h6⟩ := held_parts (rs := rs) h hL
  have hm := h.many
  have e : putl v k.toNat (rs.take L) = N.drop (64 * (N.length / 64)) ++ rs.take L := by
    rw [← h5, show k.toNat + min rs.length L = 64 by omega, ← h4, List.take_length]
  refine ⟨?_, ?_, h4, In.putl h.wi (hr.take _), ?_⟩
  · rw [h3, show (N.length + min rs.length L) / 64 = N.length / 64 + 1 by omega, sta, sta_append _ _ _ (by omega), h6, h.st, ← e]
    rw [List.take_of_length_le (l := putl v k.toNat (rs.take L)) (by omega)]
  · rw [h3]; omega
  · rw [h3, show (N.length + min rs.length L) % 64 = 0 by omega, List.take_zero, List.drop_of_length_le (by rw [h3]; omega)]
theorem held_eq' {N s s' v rs : List Int} {k : Int} {L n : Nat} (h : Held N s v k) (hr : In .u8 rs) (hL : L = 64 - k.toNat) (hn : n = min rs.length L) (hk : k + (n : Int) = 64) (hs : s' = comp s (putl v k.toNat (rs.take L))) : Held (N ++ rs.take n) s' (putl v k.toNat (rs.take L)) 0 := by
  rw [hs]
  exact held_eq h hr hL hn hk
/-- What of T lies ahead of its last part rs. -/
def upto (T rs : List Int) : List Int := T.take (T.length - rs.length)
theorem upto_all (M bs : List Int) : upto (M ++ bs) bs = M := by simp [upto]
theorem upto_step {T rs z : List Int} {n : Nat} (h : upto T rs ++ rs = T) (hz : z = (rs.drop n).take (rs.length - n)) : upto T z = upto T rs ++ rs.take n := by
  have hz' : z = rs.drop n := by rw [hz, List.take_of_length_le (by simp)]
  have hl : T.length = (upto T rs).length + rs.length := by conv => lhs; rw [← h, List.length_append]
  have e : T = (upto T rs ++ rs.take n) ++ rs.drop n := by rw [List.append_assoc, List.take_append_drop, h]
  have hl2 : T.length - z.length = (upto T rs ++ rs.take n).length := by rw [hz', List.length_append, List.length_take, List.length_drop]; omega
  show T.take (T.length - z.length) = _
  rw [hl2]
  generalize upto T rs ++ rs.take n = p at e
  rw [e, List.take_left]
theorem upto_rest {T rs z : List Int} {n : Nat} (h : upto T rs ++ rs = T) (hz : z = (rs.drop n).take (rs.length - n)) : upto T z ++ z = T := by
  rw [upto_step h hz, hz, List.take_of_length_le (l := rs.drop n) (by simp), List.append_assoc, List.take_append_drop, h]
theorem pad_set {L : Nat} (h : 0 < L) : (List.replicate L (0 : Int)).set 0 128 = [128] ++ List.replicate (L - 1) 0 := by
  obtain ⟨m, rfl⟩ : ∃ m, L = m + 1 := ⟨L - 1, by omega⟩
  rfl
theorem held_st {M N s v : List Int} {k : Int} (h : Held N s v k) (e : N = padded M) : s = sta (padded M) ((padded M).length / 64) := by rw [h.st, e]
theorem comp_in (st b : List Int) (h : st.length = 8) : In .u32 (comp st b) := fun x hx => by
  rw [comp, addl, List.drop_of_length_le (by omega), List.append_nil] at hx
  obtain ⟨i, _, rfl⟩ := List.mem_map.1 hx
  exact fits_wrap _ _
theorem sta_in (M : List Int) : ∀ q, In .u32 (sta M q)
  | 0 => fun x hx => by
    simp only [sta, h0, List.mem_cons, List.not_mem_nil, or_false] at hx
    simp only [fits]
    omega
  | q + 1 => comp_in _ _ (sta_len M q)
/-- A hash that has been given M. -/
structure Hash (M st wait : List Int) (m n : Int) : Prop where
  held : Held M st wait m
  all : n = IntKind.wrap .u64 (M.length : Int)
theorem hash0 : Hash [] h0 (List.replicate 64 0) 0 0 := ⟨held0, rfl⟩
theorem Hash.more {M bs st wt s2 w2 : List Int} {m n m2 : Int} (h : Hash M st wt m n) (h2 : Held (M ++ bs) s2 w2 m2) : Hash (M ++ bs) s2 w2 m2 (IntKind.wrap .u64 (n + bs.length)) := by
  refine ⟨h2, ?_⟩
  rw [h.all, List.length_append]
  simp [IntKind.wrap, IntKind.bits, IntKind.signed]
theorem Hash.n_eq {M st wt : List Int} {m n : Int} (h : Hash M st wt m n) (hl : M.length ≤ 140737488355328) : n = (M.length : Int) := by
  rw [h.all]
  simp [IntKind.wrap, IntKind.bits, IntKind.signed]
  omega
theorem padded_eq {M st wt : List Int} {m n : Int} (h : Hash M st wt m n) (hn : n = (M.length : Int)) : M ++ (List.replicate (1 + (119 - m) % 64).toNat (0 : Int)).set (0 : Int).toNat 128 ++ (leB (8 * n) 8).reverse = padded M := by
  have hm := h.held.many
  rw [show (0 : Int).toNat = 0 from rfl, pad_set (by omega), padded, hn, padn]
  simp only [List.append_assoc]
  congr 3
  rw [show (1 + (119 - m) % 64).toNat - 1 = (119 - M.length % 64) % 64 by omega]
theorem outB_step {s out z : List Int} {i : Int} (h0 : 0 ≤ i) (ho : out = outB s i.toNat) (hz : z = (leB (s.getD i.toNat 0) 4).reverse) : out ++ z = outB s (i + 1).toNat := by
  rw [show (i + 1).toNat = i.toNat + 1 by omega, outB, ← ho, hz]
/-! ### The reference -/
end Go.Proofs.Ytkehpipialmneaa.SL.H
