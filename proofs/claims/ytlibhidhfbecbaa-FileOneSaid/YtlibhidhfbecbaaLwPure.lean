/- Files: what a disk tells behind a Commit. -/
import Derived.Test.YtlibhidhfbecbaaCmPure
import Derived.Test.YtlibhidhfbecbaaAPure
namespace Go.Proofs.Ytlibhidhfbecbaa.SL.I
set_option linter.unusedVariables false
set_option linter.unusedSimpArgs false
open Go Go.Proofs.Ytlibhidhfbecbaa.SL Go.Proofs.Ytlibhidhfbecbaa.SL.W Go.Proofs.Ytlibhidhfbecbaa.SL.D

theorem putW_seen {zs bs : List Int} {q : Nat} {ss : List Int} {wt : Wt} (hn : zs.Nodup) (h0 : ∀ b ∈ zs, 0 ≤ b) (hq : q < zs.length) : seenP ss (wt ++ putW zs bs) (42 + (32 + zs.getD q 0)) = chunkB bs q := by
  have h1 : putW zs bs = (putW zs bs).take q ++ [(42 + (32 + zs.getD q 0), chunkB bs q)] ++ (putW zs bs).drop (q + 1) := by
    conv => lhs; rw [← List.take_append_drop (q + 1) (putW zs bs)]
    congr 1
    have hl : q < (putW zs bs).length := by rw [putW_len]; exact hq
    rw [List.take_succ_eq_append_getElem hl]
    congr 2
    have := putW_get (bs := bs) hq
    rw [List.getElem?_eq_getElem hl] at this
    exact Option.some.inj this
  rw [h1, ← List.append_assoc, seen_miss, ← List.append_assoc]
  · exact seen_last
  · intro r hr
    obtain ⟨p, hp, rfl⟩ := List.mem_iff_getElem.1 hr
    rw [List.getElem_drop]
    rw [List.length_drop, putW_len] at hp
    have h2 : q + 1 + p < zs.length := by omega
    have h3 := putW_get (bs := bs) h2
    rw [List.getElem?_eq_getElem (by rw [putW_len]; exact h2)] at h3
    rw [Option.some.inj h3]
    intro e
    simp only at e
    have hb : ∀ p, p < zs.length → 0 ≤ zs.getD p 0 := fun p hp => h0 _ (by rw [List.getD_eq_getElem?_getD, List.getElem?_eq_getElem hp]; exact List.getElem_mem hp)
    have := hb _ h2
    have := hb _ hq
    have := getD_inj hn h0 h2 hq (by omega)
    omega
theorem putW_mem {zs bs : List Int} {r : Int × List Int} (h : r ∈ putW zs bs) : ∃ b ∈ zs, r.1 = 42 + (32 + b) ∧ r.2.length = 256 := by
  obtain ⟨p, hp, rfl⟩ := List.mem_map.1 h
  have hp := List.mem_range.1 hp
  refine ⟨zs.getD p 0, ?_, rfl, chunkB_len _ _⟩
  rw [List.getD_eq_getElem?_getD, List.getElem?_eq_getElem hp]
  exact List.getElem_mem hp
theorem chunks_full {bs : List Int} : ∀ {m : Nat}, 256 * m ≤ bs.length → (List.range m).flatMap (chunkB bs) = bs.take (256 * m)
  | 0, _ => by simp
  | m + 1, h => by
    rw [List.range_succ, List.flatMap_append, chunks_full (by omega), List.flatMap_singleton, chunkB]
    have e : ((bs.drop (256 * m)).take 256).length = 256 := by rw [List.length_take, List.length_drop]; omega
    rw [e, Nat.sub_self, List.replicate_zero, List.append_nil, show 256 * (m + 1) = 256 * m + 256 by omega, List.take_add]
theorem chunks_all {bs : List Int} {m : Nat} (h : m = (need (bs.length : Int)).toNat) : ((List.range m).flatMap (chunkB bs)).take bs.length = bs := by
  unfold need at h
  by_cases h0 : bs.length = 0
  · rw [List.eq_nil_of_length_eq_zero h0]; simp
  · obtain ⟨p, rfl⟩ : ∃ p, m = p + 1 := ⟨m - 1, by omega⟩
    rw [List.range_succ, List.flatMap_append, chunks_full (by omega), List.flatMap_singleton, chunkB, List.take_of_length_le (l := bs.drop (256 * p)) (by rw [List.length_drop]; omega), ← List.append_assoc, List.take_append_drop, List.take_left]
theorem flat_ix {zs : List Int} {f : Int → List Int} {g : Nat → List Int} (h : ∀ q, q < zs.length → f (zs.getD q 0) = g q) : zs.flatMap f = (List.range zs.length).flatMap g := by
  induction zs generalizing g with
  | nil => rfl
  | cons z zs ih =>
    have h0 := h 0 (by simp)
    have h1 := ih (g := fun q => g (q + 1)) (fun q hq => h (q + 1) (by simp; omega))
    rw [List.flatMap_cons, List.length_cons, List.range_succ_eq_map, List.flatMap_cons, h1, List.flatMap_map]
    congr 1
theorem datF_put {zs bs ss : List Int} {wt : Wt} (hn : zs.Nodup) (h0 : ∀ b ∈ zs, 0 ≤ b) (hl : zs.length = (need (bs.length : Int)).toNat) : datF ss (wt ++ putW zs bs) zs (bs.length : Int) = bs := by
  unfold datF datB
  rw [flat_ix (g := chunkB bs) (fun q hq => putW_seen hn h0 hq), hl]
  exact chunks_all rfl
theorem datF_congr {s1 s2 bl : List Int} {w1 w2 : Wt} {sz : Int} (h : ∀ b ∈ bl, vb s2 w2 (32 + b) = vb s1 w1 (32 + b)) : datF s2 w2 bl sz = datF s1 w1 bl sz := by
  unfold datF datB
  congr 1
  induction bl with
  | nil => rfl
  | cons b bl ih => rw [List.flatMap_cons, List.flatMap_cons, h b List.mem_cons_self, ih (fun x hx => h x (List.mem_cons_of_mem _ hx))]
theorem vb_miss {ss : List Int} {wt W : Wt} {b : Int} (h : ∀ r ∈ W, r.1 ≠ 42 + b) : vb ss (wt ++ W) b = vb ss wt b := seen_miss h
theorem putN_addr {k : Nat} {l : List Ca} {E0 : Ed} (h0 : EdOK k E0) (hnm : ∀ r ∈ l, 1 ≤ r.1.size ∧ r.1.size ≤ 40) (hsp : needs l l.length ≤ (E0.sp.length : Int)) : ∀ {i : Nat} {E : Ed} {W : Wt}, i ≤ l.length → PutN l E0 i E W → ∀ r ∈ W, ∃ b ∈ E0.sp, r.1 = 42 + (32 + b) ∧ r.2.length = 256
  | 0, E, W, _, h => by
    obtain ⟨rfl, rfl⟩ := h
    intro r hr
    cases hr
  | i + 1, E, W, hi, h => by
    have hg : l[i]? = some l[i] := List.getElem?_eq_getElem (by omega)
    unfold PutN at h
    rw [hg] at h
    generalize hr : l[i] = r at *
    obtain ⟨nm, g, bs⟩ := r
    cases g with
    | true =>
      simp only at h
      exact putN_addr h0 hnm hsp (by omega) h
    | false =>
      simp only at h
      obtain ⟨E1, W1, ix, h1, h2, h3, h4⟩ := h
      have ih := putN_ok h0 hnm hsp (by omega) h1
      intro r hr
      rw [h4] at hr
      rcases List.mem_append.1 hr with hr | hr
      · exact putN_addr h0 hnm hsp (by omega) h1 r hr
      · obtain ⟨b, hb, q1, q2⟩ := putW_mem hr
        have hb := List.mem_of_mem_take hb
        rw [ih.sp] at hb
        exact ⟨b, List.mem_of_mem_drop hb, q1, q2⟩
theorem putN_data {k : Nat} {l : List Ca} {E0 : Ed} (h0 : EdOK k E0) (hnm : ∀ r ∈ l, 1 ≤ r.1.size ∧ r.1.size ≤ 40) (hsp : needs l l.length ≤ (E0.sp.length : Int)) (hnd : (l.map (·.1)).Nodup) : ∀ {i : Nat} {E : Ed} {W : Wt}, i ≤ l.length → PutN l E0 i E W →
    ∀ e ∈ E.C, (e ∈ E0.C ∧ ¬ isPut (l.take i) e.1) ∨ (∃ bs, (e.1, false, bs) ∈ l.take i ∧ e.2.2.1 = (bs.length : Int) ∧ ∀ ss wt, datF ss (wt ++ W) e.2.2.2 e.2.2.1 = bs)
  | 0, E, W, _, h => by
    obtain ⟨rfl, rfl⟩ := h
    exact fun e he => .inl ⟨he, fun ⟨r, hr, _⟩ => by simp at hr⟩
  | i + 1, E, W, hi, h => by
    have hg : l[i]? = some l[i] := List.getElem?_eq_getElem (by omega)
    unfold PutN at h
    rw [hg] at h
    generalize hr : l[i] = r at *
    obtain ⟨nm, g, bs⟩ := r
    have hmem : ∀ x, x ∈ l.take i → x ∈ l.take (i + 1) := fun x hx => (take_mem hg).2 (.inl hx)
    cases g with
    | true =>
      simp only at h
      intro e he
      rcases putN_data h0 hnm hsp hnd (by omega) h e he with ⟨q1, q2⟩ | ⟨bs2, q1, q2, q3⟩
      · exact .inl ⟨q1, fun q => ((isPut_succ hg).1 q).elim q2 (fun q => by cases q.2)⟩
      · exact .inr ⟨bs2, hmem _ q1, q2, q3⟩
    | false =>
      simp only at h
      obtain ⟨E1, W1, ix, h1, h2, h3, h4⟩ := h
      have ih := putN_ok h0 hnm hsp (by omega) h1
      have hE1 := ih.ed
      have hn := needs_mono l (i := i + 1) (j := l.length) (by omega)
      have e5 : needs l (i + 1) = needs l i + need (bs.length : Int) := by rw [needs, hg]
      have hn0 := needs_0 l i
      have hb0 := need_bd (bs.length : Int) (by omega)
      have hle : need (bs.length : Int) ≤ (E1.sp.length : Int) := by rw [ih.sp, List.length_drop]; omega
      intro e he
      rw [h3] at he
      unfold putC at he
      simp only at he
      rcases List.mem_append.1 he with he | he
      · have he2 := mem_cdel.1 he
        have hb : ∀ b ∈ e.2.2.2, ∀ r ∈ putW (E1.sp.take (need (bs.length : Int)).toNat) bs, r.1 ≠ 42 + (32 + b) := fun b hb r hr e6 => by
          obtain ⟨c, hc, q1, _⟩ := putW_mem hr
          have hc2 := hE1.spb c (List.mem_of_mem_take hc)
          have hbc : b = c := by omega
          subst hbc
          have := (hE1.good.free b.toNat (by omega)).1 hc2.2.2
          rw [Int.toNat_of_nonneg hc2.1] at this
          exact this (mem_cbls.2 ⟨e, he2.1, hb⟩)
        rcases putN_data h0 hnm hsp hnd (by omega) h1 e he2.1 with ⟨q1, q2⟩ | ⟨bs2, q1, q2, q3⟩
        · exact .inl ⟨q1, fun q => ((isPut_succ hg).1 q).elim q2 (fun q => he2.2 q.1)⟩
        · refine .inr ⟨bs2, hmem _ q1, q2, fun ss wt => ?_⟩
          rw [h4, ← List.append_assoc, datF_congr (s1 := ss) (w1 := wt ++ W1) (fun b hb2 => vb_miss (hb b hb2))]
          exact q3 ss wt
      · rw [List.mem_singleton.1 he]
        refine .inr ⟨bs, (take_mem hg).2 (.inr rfl), rfl, fun ss wt => ?_⟩
        rw [h4, ← List.append_assoc]
        exact datF_put (hE1.spn.sublist (List.take_sublist _ _)) (fun b hb => (hE1.spb b (List.mem_of_mem_take hb)).1) (by rw [List.length_take]; omega)
theorem chgL_seen {ss : List Int} {wt : Wt} {rows : List (List Int)} {b : Int} : ∀ i : Nat, seenP ss (wt ++ layL (chgL ss wt rows i)) (42 + b) = if 0 ≤ b ∧ b < (i : Int) then rows.getD b.toNat [] else seenP ss wt (42 + b)
  | 0 => by
    rw [if_neg (by omega), chgL]
    show seenP ss (wt ++ []) _ = _
    rw [List.append_nil]
  | i + 1 => by
    have ih := chgL_seen (ss := ss) (wt := wt) (rows := rows) (b := b) i
    rw [chgL]
    split
    · rename_i hv
      rw [ih]
      by_cases h1 : 0 ≤ b ∧ b < (i : Int)
      · rw [if_pos h1, if_pos (by omega)]
      · rw [if_neg h1]
        by_cases h2 : b = (i : Int)
        · rw [if_pos (by omega), h2]
          exact hv
        · rw [if_neg (by omega)]
    · rw [layL_app, ← List.append_assoc]
      by_cases h2 : b = (i : Int)
      · rw [if_pos (by omega), h2]
        exact seen_last
      · rw [seen_miss (w := layL [((i : Int), rows.getD i [])]) (fun r hr => by rw [List.mem_singleton.1 hr]; simp only; omega), ih]
        by_cases h1 : 0 ≤ b ∧ b < (i : Int)
        · rw [if_pos h1, if_pos (by omega)]
        · rw [if_neg h1, if_neg (by omega)]
theorem chgL_mem {ss : List Int} {wt : Wt} {rows : List (List Int)} {r : Int × List Int} : ∀ {i : Nat}, r ∈ chgL ss wt rows i → 0 ≤ r.1 ∧ r.1 < (i : Int) ∧ r.2 = rows.getD r.1.toNat []
  | 0, h => by cases h
  | i + 1, h => by
    rw [chgL] at h
    split at h
    · have := chgL_mem h; exact ⟨this.1, by omega, this.2.2⟩
    · rcases List.mem_append.1 h with h | h
      · have := chgL_mem h; exact ⟨this.1, by omega, this.2.2⟩
      · rw [List.mem_singleton.1 h]
        exact ⟨by simp only; omega, by simp only; omega, rfl⟩
theorem putl_get {xs us : List Int} {i j : Nat} (h : i + us.length ≤ xs.length) : (putl xs i us).getD j 0 = if j < i then xs.getD j 0 else if j < i + us.length then us.getD (j - i) 0 else xs.getD j 0 := by
  unfold putl
  simp only [List.getD_eq_getElem?_getD]
  rw [List.append_assoc]
  have ht : (xs.take i).length = i := by rw [List.length_take]; omega
  by_cases h1 : j < i
  · rw [if_pos h1, List.getElem?_append_left (by omega), List.getElem?_take_of_lt h1]
  · rw [if_neg h1, List.getElem?_append_right (by omega), ht]
    by_cases h2 : j < i + us.length
    · rw [if_pos h2, List.getElem?_append_left (by omega)]
    · rw [if_neg h2, List.getElem?_append_right (by omega), List.getElem?_drop]
      congr 2
      omega
theorem win_get {xs : List Int} {o j : Nat} (hj : j < 64) : ((xs.drop o).take 64).getD j 0 = xs.getD (o + j) 0 := by
  simp only [List.getD_eq_getElem?_getD]
  rw [List.getElem?_take_of_lt hj, List.getElem?_drop]
theorem ext64 {xs ys : List Int} (hx : xs.length = 64) (hy : ys.length = 64) (h : ∀ j, j < 64 → xs.getD j 0 = ys.getD j 0) : xs = ys := by
  apply List.ext_getElem (by omega)
  intro j h1 h2
  have := h j (by omega)
  rwa [List.getD_eq_getElem?_getD, List.getD_eq_getElem?_getD, List.getElem?_eq_getElem h1, List.getElem?_eq_getElem h2] at this
theorem putE_get {r : List Int} {o j : Nat} {nm : ByteArray} {sz fb : Int} (hn : nm.size ≤ 40) (hr : o + 64 ≤ r.length) : (putE r o nm sz fb).getD j 0 = if j < o then r.getD j 0 else if o + 64 ≤ j then r.getD j 0 else if j = o then (nm.size : Int) else if j < o + 1 + nm.size then (sb nm).getD (j - (o + 1)) 0 else if j < o + 44 then r.getD j 0 else if j < o + 48 then (leB sz 4).getD (j - (o + 44)) 0 else if j < o + 50 then ((leB fb 4).take 2).getD (j - (o + 48)) 0 else r.getD j 0 := by
  have h1 : (sb nm).length = nm.size := SL.sb_len nm
  have h2 : ((leB fb 4).take 2).length = 2 := rfl
  have h3 : (leB sz 4).length = 4 := rfl
  have l1 : (r.set o (nm.size : Int)).length = r.length := List.length_set
  have l2 : (putl (r.set o (nm.size : Int)) (o + 1) (sb nm)).length = r.length := by rw [putl_len (by omega), l1]
  have l3 : (putl (putl (r.set o (nm.size : Int)) (o + 1) (sb nm)) (o + 44) (leB sz 4)).length = r.length := by rw [putl_len (by omega), l2]
  unfold putE
  rw [putl_get (by omega), putl_get (by omega), putl_get (by omega), getD_set (by omega), h1, h2, h3]
  repeat' split
  all_goals first | rfl | omega
theorem putE_len2 {r : List Int} {o : Nat} {nm : ByteArray} {sz fb : Int} (hn : nm.size ≤ 40) (hr : o + 64 ≤ r.length) : (putE r o nm sz fb).length = r.length := by
  have h1 : (sb nm).length = nm.size := SL.sb_len nm
  have h2 : ((leB fb 4).take 2).length = 2 := rfl
  have h3 : (leB sz 4).length = 4 := rfl
  have l1 : (r.set o (nm.size : Int)).length = r.length := List.length_set
  have l2 : (putl (r.set o (nm.size : Int)) (o + 1) (sb nm)).length = r.length := by rw [putl_len (by omega), l1]
  have l3 : (putl (putl (r.set o (nm.size : Int)) (o + 1) (sb nm)) (o + 44) (leB sz 4)).length = r.length := by rw [putl_len (by omega), l2]
  unfold putE
  rw [putl_len (by omega), l3]
theorem putE_win {r : List Int} {o : Nat} {nm : ByteArray} {sz fb : Int} (hn : nm.size ≤ 40) (hr : o + 64 ≤ r.length) : ((putE r o nm sz fb).drop o).take 64 = putE ((r.drop o).take 64) 0 nm sz fb := by
  have hl := putE_len2 (sz := sz) (fb := fb) hn hr
  have hw : ((r.drop o).take 64).length = 64 := by rw [List.length_take, List.length_drop]; omega
  refine ext64 (by rw [List.length_take, List.length_drop]; omega) (by rw [putE_len2 hn (by omega), hw]) fun j hj => ?_
  rw [win_get hj, putE_get hn hr, putE_get hn (by omega), win_get hj]
  simp only [Nat.not_lt_zero, if_false, Nat.zero_add]
  repeat' split
  all_goals first | omega | rfl | (congr 1; omega)
theorem putE_other {r : List Int} {o p : Nat} {nm : ByteArray} {sz fb : Int} (hn : nm.size ≤ 40) (hr : o + 64 ≤ r.length) (hp : p + 64 ≤ r.length) (hd : p + 64 ≤ o ∨ o + 64 ≤ p) : ((putE r o nm sz fb).drop p).take 64 = (r.drop p).take 64 := by
  have hl := putE_len2 (sz := sz) (fb := fb) hn hr
  refine ext64 (by rw [List.length_take, List.length_drop]; omega) (by rw [List.length_take, List.length_drop]; omega) fun j hj => ?_
  rw [win_get hj, win_get hj, putE_get hn hr]
  by_cases h1 : p + j < o
  · rw [if_pos h1]
  · rw [if_neg h1, if_pos (by omega)]
end Go.Proofs.Ytlibhidhfbecbaa.SL.I
