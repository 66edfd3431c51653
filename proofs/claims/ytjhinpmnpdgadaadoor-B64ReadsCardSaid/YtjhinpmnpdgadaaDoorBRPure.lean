/- Letters: read again. -/
import Derived.Test.YtjhinpmnpdgadaaDoorBPure
import Derived.Test.YtjhinpmnpdgadaaDoorSLze
namespace Go.Proofs.YtjhinpmnpdgadaaDoor.SL.B
set_option linter.unusedVariables false
set_option linter.unusedSimpArgs false
open Go Go.Proofs.YtjhinpmnpdgadaaDoor.SL Go.Proofs.YtjhinpmnpdgadaaDoor.SL.W Go.Proofs.YtjhinpmnpdgadaaDoor.SL.Y

theorem sb_str {xs : List Int} (h : In .u8 xs) : sb (strOfNums xs) = xs := by
  simp only [sb, strOfNums]
  simp only [List.map_map]
  conv => rhs; rw [← List.map_id xs]
  refine List.map_congr_left (fun x hx => ?_)
  have hb := h x hx
  simp only [fits] at hb
  have : x.toNat.toUInt8.toNat = x.toNat := by
    simp only [Nat.toUInt8, UInt8.toNat_ofNat']
    omega
  simp only [Function.comp, this, id]
  omega
theorem str_sb (s : ByteArray) : strOfNums (sb s) = s := by
  apply ByteArray.ext
  apply Array.ext'
  simp only [sb, strOfNums, List.map_map]
  conv => rhs; rw [← List.map_id s.data.toList]
  refine List.map_congr_left (fun x _ => ?_)
  simp
theorem ltr_all : ∀ v : Fin 64, dec (ltr (v.val : Int)) = (v.val : Int) ∧ ltr (v.val : Int) ≠ 61 := by decide +kernel
theorem dec_ltr {v : Int} (h : 0 ≤ v ∧ v < 64) : dec (ltr v) = v := by
  have := (ltr_all ⟨v.toNat, by omega⟩).1
  simpa only [Int.toNat_of_nonneg h.1] using this
theorem ltr_ne {v : Int} (h : 0 ≤ v ∧ v < 64) : ltr v ≠ 61 := by
  have := (ltr_all ⟨v.toNat, by omega⟩).2
  simpa only [Int.toNat_of_nonneg h.1] using this
theorem dec_back : ∀ a : Fin 256, 0 ≤ dec (a.val : Int) → ltr (dec (a.val : Int)) = (a.val : Int) := by decide +kernel
theorem ltr_dec {x : Int} (h : 0 ≤ x ∧ x < 256) (hd : 0 ≤ dec x) : ltr (dec x) = x := by
  have := dec_back ⟨x.toNat, by omega⟩
  simp only [Int.toNat_of_nonneg h.1] at this
  exact this hd
theorem enc_g1 {a : Int} (ha : 0 ≤ a ∧ a < 256) : encC [a] = [ltr (a / 4), ltr (a % 4 * 16), 61, 61] := by
  simp only [encC, List.getD_cons_zero, List.getD_cons_succ, List.getD_nil, List.length_cons, List.length_nil]
  rw [if_neg (by omega), if_neg (by omega), show (a * 65536 + 0 * 256 + 0) / 262144 = a / 4 by omega, show (a * 65536 + 0 * 256 + 0) / 4096 % 64 = a % 4 * 16 by omega]
theorem enc_g2 {a b : Int} (ha : 0 ≤ a ∧ a < 256) (hb : 0 ≤ b ∧ b < 256) : encC [a, b] = [ltr (a / 4), ltr (a % 4 * 16 + b / 16), ltr (b % 16 * 4), 61] := by
  simp only [encC, List.getD_cons_zero, List.getD_cons_succ, List.getD_nil, List.length_cons, List.length_nil]
  rw [if_pos (by omega), if_neg (by omega), show (a * 65536 + b * 256 + 0) / 262144 = a / 4 by omega, show (a * 65536 + b * 256 + 0) / 4096 % 64 = a % 4 * 16 + b / 16 by omega, show (a * 65536 + b * 256 + 0) / 64 % 64 = b % 16 * 4 by omega]
theorem enc_g3 {a b c : Int} (ha : 0 ≤ a ∧ a < 256) (hb : 0 ≤ b ∧ b < 256) (hc : 0 ≤ c ∧ c < 256) : encC [a, b, c] = [ltr (a / 4), ltr (a % 4 * 16 + b / 16), ltr (b % 16 * 4 + c / 64), ltr (c % 64)] := by
  simp only [encC, List.getD_cons_zero, List.getD_cons_succ, List.getD_nil, List.length_cons, List.length_nil]
  rw [if_pos (by omega), if_pos (by omega), show (a * 65536 + b * 256 + c) / 262144 = a / 4 by omega, show (a * 65536 + b * 256 + c) / 4096 % 64 = a % 4 * 16 + b / 16 by omega, show (a * 65536 + b * 256 + c) / 64 % 64 = b % 16 * 4 + c / 64 by omega, show (a * 65536 + b * 256 + c) % 64 = c % 64 by omega]
theorem one_of {xs : List Int} (h : In .u8 xs) (h1 : 1 ≤ xs.length) (h3 : xs.length ≤ 3) : (∃ a, xs = [a] ∧ (0 ≤ a ∧ a < 256)) ∨ (∃ a b, xs = [a, b] ∧ (0 ≤ a ∧ a < 256) ∧ (0 ≤ b ∧ b < 256)) ∨ ∃ a b c, xs = [a, b, c] ∧ (0 ≤ a ∧ a < 256) ∧ (0 ≤ b ∧ b < 256) ∧ (0 ≤ c ∧ c < 256) := by
  match xs, h with
  | [], _ => simp at h1
  | [a], h => exact .inl ⟨a, rfl, h a (by simp)⟩
  | [a, b], h => exact .inr (.inl ⟨a, b, rfl, h a (by simp), h b (by simp)⟩)
  | [a, b, c], h => exact .inr (.inr ⟨a, b, c, rfl, h a (by simp), h b (by simp), h c (by simp)⟩)
  | _ :: _ :: _ :: _ :: _, _ => simp at h3
theorem trim4 (a b c d : Int) : trimN [a, b, c, d] 4 = if d = 61 then (if c = 61 then (if b = 61 then (if a = 61 then 0 else 1) else 2) else 3) else 4 := by
  simp [trimN]
theorem vals4 (a b c d : Int) : vals [a, b, c, d] 2 = dec a * 64 + dec b ∧ vals [a, b, c, d] 3 = dec a * 4096 + dec b * 64 + dec c ∧ vals [a, b, c, d] 4 = dec a * 262144 + dec b * 4096 + dec c * 64 + dec d := by
  simp only [vals, List.getD_cons_zero, List.getD_cons_succ]
  omega
theorem good4 (a b c d : Int) : (good [a, b, c, d] 2 = true ↔ 0 ≤ dec a ∧ 0 ≤ dec b) ∧ (good [a, b, c, d] 3 = true ↔ 0 ≤ dec a ∧ 0 ≤ dec b ∧ 0 ≤ dec c) ∧ (good [a, b, c, d] 4 = true ↔ 0 ≤ dec a ∧ 0 ≤ dec b ∧ 0 ≤ dec c ∧ 0 ≤ dec d) := by
  simp [good, and_assoc]
/-- What was written is read. -/
theorem grp_back {cs : List Int} (h : In .u8 cs) (h1 : 1 ≤ cs.length) (h3 : cs.length ≤ 3) : trimN (encC cs) 4 = cs.length + 1 ∧ decG (encC cs) (cs.length + 1) = some cs := by
  rcases one_of h h1 h3 with ⟨a, rfl, ha⟩ | ⟨a, b, rfl, ha, hb⟩ | ⟨a, b, c, rfl, ha, hb, hc⟩
  · have l1 : 0 ≤ a / 4 ∧ a / 4 < 64 := by omega
    have l2 : 0 ≤ a % 4 * 16 ∧ a % 4 * 16 < 64 := by omega
    rw [enc_g1 ha]
    refine ⟨by rw [trim4, if_pos rfl, if_pos rfl, if_neg (ltr_ne l2)]; rfl, ?_⟩
    show decG _ 2 = _
    rw [decG, if_pos ((good4 _ _ _ _).1.2 (by rw [dec_ltr l1, dec_ltr l2]; omega)), if_pos rfl, (vals4 _ _ _ _).1, dec_ltr l1, dec_ltr l2, if_pos (by omega), show (a / 4 * 64 + a % 4 * 16) / 16 % 256 = a by omega]
  · have l1 : 0 ≤ a / 4 ∧ a / 4 < 64 := by omega
    have l2 : 0 ≤ a % 4 * 16 + b / 16 ∧ a % 4 * 16 + b / 16 < 64 := by omega
    have l3 : 0 ≤ b % 16 * 4 ∧ b % 16 * 4 < 64 := by omega
    rw [enc_g2 ha hb]
    refine ⟨by rw [trim4, if_pos rfl, if_neg (ltr_ne l3)]; rfl, ?_⟩
    show decG _ 3 = _
    rw [decG, if_pos ((good4 _ _ _ _).2.1.2 (by rw [dec_ltr l1, dec_ltr l2, dec_ltr l3]; omega)), if_neg (by decide), if_pos rfl, (vals4 _ _ _ _).2.1, dec_ltr l1, dec_ltr l2, dec_ltr l3, if_pos (by omega), show (a / 4 * 4096 + (a % 4 * 16 + b / 16) * 64 + b % 16 * 4) / 1024 % 256 = a by omega, show (a / 4 * 4096 + (a % 4 * 16 + b / 16) * 64 + b % 16 * 4) / 4 % 256 = b by omega]
  · have l1 : 0 ≤ a / 4 ∧ a / 4 < 64 := by omega
    have l2 : 0 ≤ a % 4 * 16 + b / 16 ∧ a % 4 * 16 + b / 16 < 64 := by omega
    have l3 : 0 ≤ b % 16 * 4 + c / 64 ∧ b % 16 * 4 + c / 64 < 64 := by omega
    have l4 : 0 ≤ c % 64 ∧ c % 64 < 64 := by omega
    rw [enc_g3 ha hb hc]
    refine ⟨by rw [trim4, if_neg (ltr_ne l4)]; rfl, ?_⟩
    show decG _ 4 = _
    rw [decG, if_pos ((good4 _ _ _ _).2.2.2 (by rw [dec_ltr l1, dec_ltr l2, dec_ltr l3, dec_ltr l4]; omega)), if_neg (by decide), if_neg (by decide), (vals4 _ _ _ _).2.2, dec_ltr l1, dec_ltr l2, dec_ltr l3, dec_ltr l4]
    rw [show (a / 4 * 262144 + (a % 4 * 16 + b / 16) * 4096 + (b % 16 * 4 + c / 64) * 64 + c % 64) / 65536 % 256 = a by omega, show (a / 4 * 262144 + (a % 4 * 16 + b / 16) * 4096 + (b % 16 * 4 + c / 64) * 64 + c % 64) / 256 % 256 = b by omega, show (a / 4 * 262144 + (a % 4 * 16 + b / 16) * 4096 + (b % 16 * 4 + c / 64) * 64 + c % 64) % 256 = c by omega]
/-- What was read is written so. -/
theorem grp_forth {g bs : List Int} {m : Nat} (hg : In .u8 g) (h4 : g.length = 4) (hm : 2 ≤ m ∧ m ≤ 4) (ht : ∀ i, m ≤ i → i < 4 → g.getD i 0 = 61) (h : decG g m = some bs) : encC bs = g ∧ In .u8 bs ∧ bs.length + 1 = m := by
  obtain ⟨a, b, c, d, rfl⟩ : ∃ a b c d, g = [a, b, c, d] := by
    match g, h4 with
    | [a, b, c, d], _ => exact ⟨a, b, c, d, rfl⟩
  have ha : 0 ≤ a ∧ a < 256 := hg a (by simp)
  have hb : 0 ≤ b ∧ b < 256 := hg b (by simp)
  have hc : 0 ≤ c ∧ c < 256 := hg c (by simp)
  have hd : 0 ≤ d ∧ d < 256 := hg d (by simp)
  have da := dec_bd ha
  have db := dec_bd hb
  have dc := dec_bd hc
  have dd := dec_bd hd
  have hgood : good [a, b, c, d] m = true := by
    rcases Bool.eq_false_or_eq_true (good [a, b, c, d] m) with e | e
    · exact e
    · rw [decG, if_neg (by rw [e]; decide)] at h; cases h
  rw [decG, if_pos hgood] at h
  obtain rfl | rfl | rfl : m = 2 ∨ m = 3 ∨ m = 4 := by omega
  · obtain ⟨ga, gb⟩ := (good4 _ _ _ _).1.1 hgood
    rw [if_pos rfl, (vals4 _ _ _ _).1] at h
    split at h
    · rename_i h0
      simp only [Option.some.injEq] at h
      subst h
      have hx : 0 ≤ (dec a * 64 + dec b) / 16 % 256 ∧ (dec a * 64 + dec b) / 16 % 256 < 256 := by omega
      have t2 : c = 61 := ht 2 (by omega) (by omega)
      have t3 : d = 61 := ht 3 (by omega) (by omega)
      refine ⟨?_, In.cons hx (In.nil _), rfl⟩
      rw [enc_g1 hx, show (dec a * 64 + dec b) / 16 % 256 / 4 = dec a by omega, show (dec a * 64 + dec b) / 16 % 256 % 4 * 16 = dec b by omega, ltr_dec ha ga, ltr_dec hb gb, t2, t3]
    · cases h
  · obtain ⟨ga, gb, gc⟩ := (good4 _ _ _ _).2.1.1 hgood
    rw [if_neg (by decide), if_pos rfl, (vals4 _ _ _ _).2.1] at h
    split at h
    · rename_i h0
      simp only [Option.some.injEq] at h
      subst h
      have hx : 0 ≤ (dec a * 4096 + dec b * 64 + dec c) / 1024 % 256 ∧ (dec a * 4096 + dec b * 64 + dec c) / 1024 % 256 < 256 := by omega
      have hy : 0 ≤ (dec a * 4096 + dec b * 64 + dec c) / 4 % 256 ∧ (dec a * 4096 + dec b * 64 + dec c) / 4 % 256 < 256 := by omega
      have t3 : d = 61 := ht 3 (by omega) (by omega)
      refine ⟨?_, In.cons hx (In.cons hy (In.nil _)), rfl⟩
      rw [enc_g2 hx hy, show (dec a * 4096 + dec b * 64 + dec c) / 1024 % 256 / 4 = dec a by omega, show (dec a * 4096 + dec b * 64 + dec c) / 1024 % 256 % 4 * 16 + (dec a * 4096 + dec b * 64 + dec c) / 4 % 256 / 16 = dec b by omega, show (dec a * 4096 + dec b * 64 + dec c) / 4 % 256 % 16 * 4 = dec c by omega, ltr_dec ha ga, ltr_dec hb gb, ltr_dec hc gc, t3]
    · cases h
  · obtain ⟨ga, gb, gc, gd⟩ := (good4 _ _ _ _).2.2.1 hgood
    rw [if_neg (by decide), if_neg (by decide), (vals4 _ _ _ _).2.2] at h
    simp only [Option.some.injEq] at h
    subst h
    generalize hV : dec a * 262144 + dec b * 4096 + dec c * 64 + dec d = V
    have hx : 0 ≤ V / 65536 % 256 ∧ V / 65536 % 256 < 256 := by omega
    have hy : 0 ≤ V / 256 % 256 ∧ V / 256 % 256 < 256 := by omega
    have hz : 0 ≤ V % 256 ∧ V % 256 < 256 := by omega
    refine ⟨?_, In.cons hx (In.cons hy (In.cons hz (In.nil _))), rfl⟩
    rw [enc_g3 hx hy hz, show V / 65536 % 256 / 4 = dec a by omega, show V / 65536 % 256 % 4 * 16 + V / 256 % 256 / 16 = dec b by omega, show V / 256 % 256 % 16 * 4 + V % 256 / 64 = dec c by omega, show V % 256 % 64 = dec d by omega, ltr_dec ha ga, ltr_dec hb gb, ltr_dec hc gc, ltr_dec hd gd]
theorem enc_at {xs : List Int} {j : Nat} (hj : j < (xs.length + 2) / 3) : ((enc xs).drop (4 * j)).take 4 = encC (chunk 3 xs j) := by
  have e : enc xs = encN xs j ++ (encC (chunk 3 xs j) ++ encN (xs.drop (3 * (j + 1))) ((xs.length + 2) / 3 - (j + 1))) := by
    rw [enc, show (xs.length + 2) / 3 = (j + 1) + ((xs.length + 2) / 3 - (j + 1)) by omega, encN_add, encN, List.append_assoc, show j + 1 + ((xs.length + 2) / 3 - (j + 1)) - (j + 1) = (xs.length + 2) / 3 - (j + 1) by omega]
  rw [e, List.drop_append_of_le_length (by rw [encN_len]; omega), List.drop_of_length_le (by rw [encN_len]; omega), List.nil_append, List.take_append_of_le_length (by rw [encC_len]; omega), List.take_of_length_le (by rw [encC_len]; omega)]
theorem decB_enc {xs : List Int} (hI : In .u8 xs) : ∀ j, j ≤ (xs.length + 2) / 3 → decB (enc xs) j = some (xs.take (3 * j))
  | 0, _ => by simp [decB]
  | j + 1, hj => by
    have hl : (chunk 3 xs j).length = min 3 (xs.length - 3 * j) := chunk_len _ _ _
    have hb := grp_back (cs := chunk 3 xs j) (chunk_in hI j) (by omega) (by omega)
    have hg : grp (enc xs) j = some (chunk 3 xs j) := by
      rw [grp, enc_at (by omega)]
      by_cases hlast : 4 * j + 4 = (enc xs).length
      · rw [if_pos hlast, hb.1, if_neg (by have := hb.1; omega)]
        exact hb.2
      · rw [if_neg hlast, if_neg (by decide)]
        rw [enc_len] at hlast
        have : (chunk 3 xs j).length + 1 = 4 := by omega
        rw [← this]
        exact hb.2
    rw [decB, decB_enc hI j (show j ≤ (xs.length + 2) / 3 by omega), hg]
    simp only [Option.some.injEq]
    rw [Nat.mul_add, Nat.mul_one, List.take_add]
    rfl
theorem bytes_enc {xs : List Int} (hI : In .u8 xs) : bytesP (enc xs) = some xs := by
  rw [bytesP, if_pos (by rw [enc_len]; omega), enc_len, show 4 * ((xs.length + 2) / 3) / 4 = (xs.length + 2) / 3 by omega, decB_enc hI _ (Nat.le_refl _), List.take_of_length_le (by omega)]
theorem trimN_end {g : List Int} : ∀ {k i : Nat}, trimN g k ≤ i → i < k → g.getD i 0 = 61
  | 0, i, _, h => by omega
  | k + 1, i, h, hi => by
    rw [trimN] at h
    split at h
    · rename_i h61
      rcases Nat.lt_or_ge i k with hk | hk
      · exact trimN_end h hk
      · rw [show i = k by omega]; exact h61
    · omega
theorem grp_some {s b : List Int} {j : Nat} (hI : In .u8 s) (hj : 4 * j + 4 ≤ s.length) (h : grp s j = some b) : encC b = (s.drop (4 * j)).take 4 ∧ In .u8 b ∧ b.length ≤ 3 ∧ 1 ≤ b.length ∧ (4 * j + 4 ≠ s.length → b.length = 3) := by
  have hI2 : In .u8 ((s.drop (4 * j)).take 4) := (hI.drop _).take _
  have h4 : ((s.drop (4 * j)).take 4).length = 4 := by rw [List.length_take, List.length_drop]; omega
  by_cases hl : 4 * j + 4 = s.length
  · rw [grp, if_pos hl] at h
    split at h
    · cases h
    · have hle := trimN_le ((s.drop (4 * j)).take 4) 4
      have := grp_forth hI2 h4 (by omega) (fun i h1 h2 => trimN_end h1 h2) h
      exact ⟨this.1, this.2.1, by omega, by omega, fun hn => absurd hl hn⟩
  · rw [grp, if_neg hl, if_neg (by decide)] at h
    have := grp_forth hI2 h4 (by omega) (fun i h1 h2 => by omega) h
    exact ⟨this.1, this.2.1, by omega, by omega, fun _ => by omega⟩
theorem decB_back {s : List Int} (hI : In .u8 s) (h4 : s.length % 4 = 0) : ∀ (j : Nat) (o : List Int), j ≤ s.length / 4 → decB s j = some o → In .u8 o ∧ encN o j = s.take (4 * j) ∧ (o.length + 2) / 3 = j ∧ (j < s.length / 4 → o.length = 3 * j)
  | 0, o, _, h => by
    simp only [decB, Option.some.injEq] at h
    subst h
    exact ⟨In.nil _, by simp [encN], rfl, fun _ => rfl⟩
  | j + 1, o, hj, h => by
    rw [decB] at h
    split at h
    · rename_i o' b ho hb
      simp only [Option.some.injEq] at h
      subst h
      obtain ⟨i1, i2, i3, i4⟩ := decB_back hI h4 j o' (by omega) ho
      have hlen := i4 (by omega)
      obtain ⟨g1, g2, g3, g4, g5⟩ := grp_some hI (by omega) hb
      have et : (o' ++ b).take (3 * j) = o' := by rw [List.take_append_of_le_length (by omega), List.take_of_length_le (by omega)]
      have e1 : encN (o' ++ b) j = encN o' j := by rw [← encN_take j (Nat.le_refl _), et]
      have e2 : chunk 3 (o' ++ b) j = b := by rw [chunk, List.drop_append_of_le_length (by omega), List.drop_of_length_le (by omega), List.nil_append, List.take_of_length_le (by omega)]
      refine ⟨i1.append g2, ?_, by rw [List.length_append]; omega, fun hlt => by rw [List.length_append, g5 (by omega)]; omega⟩
      rw [encN, e1, e2, i2, g1, Nat.mul_add, Nat.mul_one, List.take_add]
    · cases h
theorem enc_bytes {s x : List Int} (hI : In .u8 s) (h : bytesP s = some x) : enc x = s ∧ In .u8 x := by
  rw [bytesP] at h
  split at h
  · rename_i h4
    obtain ⟨h1, h2, h3, _⟩ := decB_back hI h4 (s.length / 4) x (Nat.le_refl _) h
    refine ⟨?_, h1⟩
    rw [enc, h3, h2, List.take_of_length_le (by omega)]
  · cases h
/-! ### Turned -/
end Go.Proofs.YtjhinpmnpdgadaaDoor.SL.B
