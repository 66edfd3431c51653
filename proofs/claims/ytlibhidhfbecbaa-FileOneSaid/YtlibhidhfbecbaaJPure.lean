/- The journal: what its functions compute. -/
import Derived.Test.YtlibhidhfbecbaaMPure
import Derived.Test.YtlibhidhfbecbaaSLzn
namespace Go.Proofs.Ytlibhidhfbecbaa.SL.D
set_option linter.unusedVariables false
set_option linter.unusedSimpArgs false
open Go Go.Proofs.Ytlibhidhfbecbaa.SL Go.Proofs.Ytlibhidhfbecbaa.SL.W

def wrs (n : Nat) : Wt → Int → Bool → Wt → Int × Wt × Int × Bool
  | wt, lf, dn, [] => (0, wt, lf, dn)
  | wt, lf, dn, (b, x) :: l => if (writeP n wt lf dn b x).1 = 0 then wrs n (writeP n wt lf dn b x).2.1 (writeP n wt lf dn b x).2.2.1 (writeP n wt lf dn b x).2.2.2 l else writeP n wt lf dn b x
theorem wrs_app {n : Nat} : ∀ {l1 l2 wt lf dn}, wrs n wt lf dn (l1 ++ l2) = if (wrs n wt lf dn l1).1 = 0 then wrs n (wrs n wt lf dn l1).2.1 (wrs n wt lf dn l1).2.2.1 (wrs n wt lf dn l1).2.2.2 l2 else wrs n wt lf dn l1
  | [], l2, wt, lf, dn => by rw [List.nil_append, wrs, if_pos rfl]
  | (b, x) :: l1, l2, wt, lf, dn => by
    rw [List.cons_append, wrs, wrs]
    by_cases h : (writeP n wt lf dn b x).1 = 0
    · rw [if_pos h, if_pos h]
      exact wrs_app
    · rw [if_neg h, if_neg h, if_neg h]
theorem wrs_next {n : Nat} {l wt w1 w2 : Wt} {lf l1 l2 : Int} {dn d1 d2 : Bool} {i : Nat} {b e : Int} {x : List Int} (h : (0, w1, l1, d1) = wrs n wt lf dn (l.take i)) (hg : l[i]? = some (b, x)) (hw : (e, w2, l2, d2) = writeP n w1 l1 d1 b x) : (e, w2, l2, d2) = wrs n wt lf dn (l.take (i + 1)) := by
  obtain ⟨hi, he⟩ := List.getElem?_eq_some_iff.1 hg
  rw [List.take_succ_eq_append_getElem hi, he, wrs_app, ← h, if_pos rfl]
  show _ = wrs n w1 l1 d1 [(b, x)]
  rw [wrs, ← hw]
  by_cases h0 : e = 0
  · rw [if_pos h0, wrs, h0]
  · rw [if_neg h0]
theorem wrs_step {n : Nat} {l wt w1 w2 : Wt} {lf l1 l2 : Int} {dn d1 d2 : Bool} {i : Nat} {b e : Int} {x : List Int} (h : (0, w1, l1, d1) = wrs n wt lf dn (l.take i)) (hg : l[i]? = some (b, x)) (hw : (e, w2, l2, d2) = writeP n w1 l1 d1 b x) (h0 : e = 0) : (0, w2, l2, d2) = wrs n wt lf dn (l.take (i + 1)) := by
  rw [← wrs_next h hg hw, h0]
theorem wrs_stop {n : Nat} {l wt w1 w2 : Wt} {lf l1 l2 : Int} {dn d1 d2 : Bool} {i : Nat} {b e : Int} {x : List Int} (h : (0, w1, l1, d1) = wrs n wt lf dn (l.take i)) (hg : l[i]? = some (b, x)) (hw : (e, w2, l2, d2) = writeP n w1 l1 d1 b x) (h0 : ¬ e = 0) : (e, w2, l2, d2) = wrs n wt lf dn l := by
  conv => rhs; rw [← List.take_append_drop (i + 1) l]
  rw [wrs_app, ← wrs_next h hg hw, if_neg h0]
theorem wrs_end {n : Nat} {l wt w1 : Wt} {lf l1 : Int} {dn d1 : Bool} {i : Nat} (h : (0, w1, l1, d1) = wrs n wt lf dn (l.take i)) (hi : l.length ≤ i) : (0, w1, l1, d1) = wrs n wt lf dn l := by
  rwa [List.take_of_length_le hi] at h
theorem wrs_one {n : Nat} {wt w1 : Wt} {lf l1 : Int} {dn d1 : Bool} {b e : Int} {x : List Int} (h : (e, w1, l1, d1) = writeP n wt lf dn b x) : (e, w1, l1, d1) = wrs n wt lf dn [(b, x)] := by
  rw [wrs, ← h]
  by_cases h0 : e = 0
  · rw [if_pos h0, wrs, h0]
  · rw [if_neg h0]
def layL (l : Wt) : Wt := l.map fun r => (42 + r.1, r.2)
theorem layL_len (l : Wt) : (layL l).length = l.length := List.length_map _
theorem lay_get {l : Wt} {i : Nat} {b : Int} {x : List Int} (h : l[i]? = some (b, x)) : (layL l)[i]? = some (42 + b, x) := by simp [layL, h]
def logL : Int → Wt → Wt
  | _, [] => []
  | i, (b, x) :: l => (i, x) :: logL (i + 1) l
theorem logL_len : ∀ {k : Int} {l : Wt}, (logL k l).length = l.length
  | _, [] => rfl
  | k, (b, x) :: l => by rw [logL, List.length_cons, List.length_cons, logL_len]
theorem log_get : ∀ {l : Wt} {k : Int} {i : Nat} {b : Int} {x : List Int}, l[i]? = some (b, x) → (logL k l)[i]? = some (k + i, x)
  | [], k, i, b, x, h => by simp at h
  | (b', x') :: l, k, 0, b, x, h => by
    simp only [List.getElem?_cons_zero, Option.some.injEq, Prod.mk.injEq] at h
    obtain ⟨rfl, rfl⟩ := h
    rw [logL]; simp
  | (b', x') :: l, k, i + 1, b, x, h => by
    rw [List.getElem?_cons_succ] at h
    rw [logL, List.getElem?_cons_succ, log_get h]
    congr 2
    omega
def headB (l : Wt) : List Int := [79, 87, 65, 76] ++ leB l.length 4 ++ l.flatMap fun r => leB r.1 4
def headL (l : Wt) : List Int := headB l ++ List.replicate (256 - (headB l).length) 0
def BOK (n : Nat) (ls : List Ch) : Prop := ∀ r ∈ ls, 0 ≤ r.1 ∧ 256 * (42 + r.1) + 256 ≤ n ∧ r.2.2.2.length = 256
theorem BOK.nil (n : Nat) : BOK n [] := fun r hr => by cases hr
theorem bok_at {n i : Nat} {ws : List Ch} {b : Int} {A : Option Addr} {c : Nat} {xs : List Int} (h : BOK n ws) (hg : ws[i]? = some (b, A, c, xs)) : 0 ≤ b ∧ 256 * (42 + b) + 256 ≤ n ∧ xs.length = 256 := h _ (List.mem_of_getElem? hg)
theorem BOK.app {n : Nat} {ws : List Ch} {b : Int} {A : Option Addr} {c : Nat} {xs : List Int} (h : BOK n ws) (h0 : 0 ≤ b) (h1 : 256 * (42 + b) + 256 ≤ n) (h2 : xs.length = 256) : BOK n (ws ++ [(b, A, c, xs)]) := fun r hr => by
  rcases List.mem_append.1 hr with hr | hr
  · exact h r hr
  · rw [List.mem_singleton.1 hr]; exact ⟨h0, h1, h2⟩
theorem leB_len4 (v : Int) : (leB v 4).length = 4 := rfl
theorem flat_len : ∀ (l : Wt), (l.flatMap fun r => leB r.1 4).length = 4 * l.length
  | [] => rfl
  | r :: l => by rw [List.flatMap_cons, List.length_append, flat_len l, leB_len4, List.length_cons]; omega
theorem headB_len (l : Wt) : (headB l).length = 8 + 4 * l.length := by
  rw [headB, List.length_append, List.length_append, flat_len, leB_len4]
  simp only [List.length_cons, List.length_nil]
theorem flat_take {l : Wt} {i : Nat} {b : Int} {x : List Int} (h : l[i]? = some (b, x)) : ((l.take i).flatMap fun r => leB r.1 4) ++ leB b 4 = (l.take (i + 1)).flatMap fun r => leB r.1 4 := by
  obtain ⟨hi, e⟩ := List.getElem?_eq_some_iff.1 h
  rw [List.take_succ_eq_append_getElem hi, e, List.flatMap_append]
  simp
def phs (n : Nat) : List Int → Wt → Int → Bool → List Wt → Int × List Int × Wt × Int × Bool
  | ss, wt, lf, dn, [] => (0, ss, wt, lf, dn)
  | ss, wt, lf, dn, l :: ls =>
    if (wrs n wt lf dn l).1 = 0 then
      if (syncR ss (wrs n wt lf dn l).2.1 (wrs n wt lf dn l).2.2.1 (wrs n wt lf dn l).2.2.2).1 = 0 then
        phs n (syncR ss (wrs n wt lf dn l).2.1 (wrs n wt lf dn l).2.2.1 (wrs n wt lf dn l).2.2.2).2.1 (syncR ss (wrs n wt lf dn l).2.1 (wrs n wt lf dn l).2.2.1 (wrs n wt lf dn l).2.2.2).2.2.1 (syncR ss (wrs n wt lf dn l).2.1 (wrs n wt lf dn l).2.2.1 (wrs n wt lf dn l).2.2.2).2.2.2.1 (syncR ss (wrs n wt lf dn l).2.1 (wrs n wt lf dn l).2.2.1 (wrs n wt lf dn l).2.2.2).2.2.2.2 ls
      else syncR ss (wrs n wt lf dn l).2.1 (wrs n wt lf dn l).2.2.1 (wrs n wt lf dn l).2.2.2
    else ((wrs n wt lf dn l).1, ss, (wrs n wt lf dn l).2)
section
variable {n : Nat} {ss s2 : List Int} {wt w2 w3 : Wt} {lf l2 l3 : Int} {dn d2 d3 : Bool} {l : Wt} {ls : List Wt} {e f : Int} {r : Int × List Int × Wt × Int × Bool}
theorem phs_w (h : (e, w2, l2, d2) = wrs n wt lf dn l) (he : ¬ e = 0) : (e, ss, w2, l2, d2) = phs n ss wt lf dn (l :: ls) := by
  rw [phs, ← h, if_neg he]
theorem phs_s (h : (e, w2, l2, d2) = wrs n wt lf dn l) (he : e = 0) (g : (f, s2, w3, l3, d3) = syncR ss w2 l2 d2) (hf : ¬ f = 0) : (f, s2, w3, l3, d3) = phs n ss wt lf dn (l :: ls) := by
  rw [phs, ← h, if_pos he]
  show _ = if (syncR ss w2 l2 d2).1 = 0 then _ else syncR ss w2 l2 d2
  rw [← g, if_neg hf]
theorem phs_k (h : (e, w2, l2, d2) = wrs n wt lf dn l) (he : e = 0) (g : (f, s2, w3, l3, d3) = syncR ss w2 l2 d2) (hf : f = 0) (k : r = phs n s2 w3 l3 d3 ls) : r = phs n ss wt lf dn (l :: ls) := by
  rw [phs, ← h, if_pos he]
  show _ = if (syncR ss w2 l2 d2).1 = 0 then phs n (syncR ss w2 l2 d2).2.1 (syncR ss w2 l2 d2).2.2.1 (syncR ss w2 l2 d2).2.2.2.1 (syncR ss w2 l2 d2).2.2.2.2 ls else syncR ss w2 l2 d2
  rw [← g, if_pos hf]
  exact k
theorem phs_nil (he : e = 0) : (e, ss, wt, lf, dn) = phs n ss wt lf dn [] := by rw [phs, he]
end
def entry (ss : List Int) (wt : Wt) (i : Nat) : Int × List Int := (leN ((seenP ss wt 0).drop (8 + 4 * i)) 4, seenP ss wt (1 + (i : Int)))
def entries (ss : List Int) (wt : Wt) (k : Nat) : Wt := (List.range k).map (entry ss wt)
theorem entries_succ (ss : List Int) (wt : Wt) (k : Nat) : entries ss wt (k + 1) = entries ss wt k ++ [entry ss wt k] := by simp [entries, List.range_succ]
def there (n : Nat) (b : Int) : Prop := 0 ≤ b ∧ 256 * (42 + b) + 256 ≤ n
instance (n : Nat) (b : Int) : Decidable (there n b) := by unfold there; infer_instance
def marked (ss : List Int) (wt : Wt) : Prop := (seenP ss wt 0).take 4 = [79, 87, 65, 76] ∧ 1 ≤ leN ((seenP ss wt 0).drop 4) 4 ∧ leN ((seenP ss wt 0).drop 4) 4 ≤ 40
instance (ss : List Int) (wt : Wt) : Decidable (marked ss wt) := by unfold marked; infer_instance
def logged (n : Nat) (ss : List Int) (wt : Wt) : Wt :=
  if marked ss wt then (if ∀ r ∈ entries ss wt (leN ((seenP ss wt 0).drop 4) 4).toNat, there n r.1 then entries ss wt (leN ((seenP ss wt 0).drop 4) 4).toNat else []) else []
theorem logged_no {n : Nat} {ss : List Int} {wt : Wt} (h : ¬ marked ss wt) : [] = logged n ss wt := by rw [logged, if_neg h]
theorem logged_bad {n : Nat} {ss : List Int} {wt : Wt} {i : Nat} (h : marked ss wt) (hi : i < (leN ((seenP ss wt 0).drop 4) 4).toNat) (hb : ¬ there n (entry ss wt i).1) : [] = logged n ss wt := by
  rw [logged, if_pos h, if_neg]
  intro g
  exact hb (g _ (List.mem_map.2 ⟨i, List.mem_range.2 hi, rfl⟩))
theorem logged_all {n : Nat} {ss : List Int} {wt : Wt} {k : Nat} {l : Wt} (h : marked ss wt) (hl : l = entries ss wt k) (hk : k = (leN ((seenP ss wt 0).drop 4) 4).toNat) (hb : ∀ r ∈ l, there n r.1) : l = logged n ss wt := by
  subst hk; subst hl
  rw [logged, if_pos h, if_pos hb]
theorem wl_read {n : Nat} {b e : Int} {ss zs : List Int} {wt : Wt} (ht : there n b) (h : (0 ≤ 42 + b ∧ 256 * (42 + b) + 256 ≤ n ∧ e = 0 ∧ zs = seenP ss wt (42 + b) ∧ zs.length = 256) ∨ (¬ (0 ≤ 42 + b ∧ 256 * (42 + b) + 256 ≤ n) ∧ e = 1 ∧ zs = [])) : e = 0 ∧ zs = seenP ss wt (42 + b) ∧ zs.length = 256 := by
  rcases h with h | h
  · exact h.2.2
  · exact absurd ⟨by have := ht.1; omega, ht.2⟩ h.1
theorem head_end {os : List Int} {l : Wt} {i k : Nat} (ho : os = ([79, 87, 65, 76] ++ leB (l.length : Int) 4) ++ (l.take i).flatMap fun r => leB r.1 4) (hi : l.length ≤ i) (hk : k = 256 - (8 + 4 * l.length)) : os ++ List.replicate k 0 = headL l := by
  rw [headL, headB_len, hk, ho, List.take_of_length_le hi, headB]
theorem leN_take4 (xs : List Int) {k : Nat} (hk : 4 ≤ k) : leN (xs.take k) 4 = leN xs 4 := by
  have e : ∀ j, j < 4 → (xs.take k).getD j 0 = xs.getD j 0 := fun j hj => by
    rw [List.getD_eq_getElem?_getD, List.getD_eq_getElem?_getD, List.getElem?_take, if_pos (by omega)]
  simp only [leN, e 0 (by decide), e 1 (by decide), e 2 (by decide), e 3 (by decide)]
section
variable {n k k2 : Nat} {ss z y x : List Int} {wt : Wt} {v b i : Int}
theorem logged_nomark (hz : z = seenP ss wt 0) (h : ¬ z.take ([79, 87, 65, 76] : List Int).length = [79, 87, 65, 76]) : dat [] = logged n ss wt := by
  subst hz
  exact logged_no (fun g => h g.1)
theorem mk_v (hz : z = seenP ss wt 0) (hy : y = (z.drop 4).take k) (hv : v = leN y 4) (hk : 4 ≤ k) : v = leN ((seenP ss wt 0).drop 4) 4 := by
  rw [hv, hy, hz, leN_take4 _ hk]
theorem logged_few (hz : z = seenP ss wt 0) (hy : y = (z.drop 4).take k) (hv : v = leN y 4) (hk : 4 ≤ k) (h : v < 1 ∨ v > 40) : dat [] = logged n ss wt := by
  have e := mk_v hz hy hv hk
  exact logged_no (fun g => by have := g.2; omega)
theorem mk_marked (hz : z = seenP ss wt 0) (hm : z.take ([79, 87, 65, 76] : List Int).length = [79, 87, 65, 76]) (hy : y = (z.drop 4).take k) (hv : v = leN y 4) (hk : 4 ≤ k) (h1 : ¬ v < 1) (h2 : ¬ v > 40) : marked ss wt := by
  have e := mk_v hz hy hv hk
  subst hz
  exact ⟨hm, by omega, by omega⟩
theorem logged_badI (hz : z = seenP ss wt 0) (hm : z.take ([79, 87, 65, 76] : List Int).length = [79, 87, 65, 76]) (hy : y = (z.drop 4).take k) (hv : v = leN y 4) (hx : x = (z.drop (8 + 4 * i).toNat).take k2) (hb : b = leN x 4) (hk : 4 ≤ k) (hk2 : 4 ≤ k2) (h1 : ¬ v < 1) (h2 : ¬ v > 40) (h0 : 0 ≤ i) (hi : i < v) (hn : ¬ (0 ≤ b ∧ 256 * (42 + b) + 256 ≤ (n : Int))) : dat [] = logged n ss wt := by
  have e := mk_v hz hy hv hk
  refine logged_bad (i := i.toNat) (mk_marked hz hm hy hv hk h1 h2) (by omega) ?_
  rw [hb, hx, leN_take4 _ hk2, hz, show (8 + 4 * i).toNat = 8 + 4 * i.toNat by omega] at hn
  exact hn
theorem logged_good {l2 : List Ch} (hz : z = seenP ss wt 0) (hm : z.take ([79, 87, 65, 76] : List Int).length = [79, 87, 65, 76]) (hy : y = (z.drop 4).take k) (hv : v = leN y 4) (hl : dat l2 = entries ss wt i.toNat) (hbk : BOK n l2) (hk : 4 ≤ k) (h1 : ¬ v < 1) (h2 : ¬ v > 40) (hi : i = v) : dat l2 = logged n ss wt := by
  have e := mk_v hz hy hv hk
  refine logged_all (mk_marked hz hm hy hv hk h1 h2) hl (by omega) (fun r hr => ?_)
  obtain ⟨q, hq, rfl⟩ := List.mem_map.1 hr
  exact ⟨(hbk q hq).1, (hbk q hq).2.1⟩
theorem logged_step {l2 : List Ch} {A : Option Addr} {c : Nat} {xs : List Int} (hz : z = seenP ss wt 0) (hl : dat l2 = entries ss wt i.toNat) (hx : x = (z.drop (8 + 4 * i).toNat).take k2) (hb : b = leN x 4) (hs : xs = seenP ss wt (1 + i)) (hk2 : 4 ≤ k2) (h0 : 0 ≤ i) : dat (l2 ++ [(b, A, c, xs)]) = entries ss wt (i + 1).toNat := by
  rw [dat_app, hl, show (i + 1).toNat = i.toNat + 1 by omega, entries_succ, entry, hb, hx, leN_take4 _ hk2, hz, hs, show (8 + 4 * i).toNat = 8 + 4 * i.toNat by omega, show ((i.toNat : Nat) : Int) = i by omega]
end
instance (n : Nat) (ls : List Ch) : Decidable (BOK n ls) := by unfold BOK; infer_instance
theorem bok_not {n i : Nat} {ws : List Ch} {b : Int} {A : Option Addr} {c : Nat} {xs : List Int} (hg : ws[i]? = some (b, A, c, xs)) (h : ¬ (0 ≤ b ∧ 256 * (42 + b) + 256 ≤ (n : Int)) ∨ ¬ (xs.length : Int) = 256) : ¬ BOK n ws := fun g => by
  have := bok_at g hg
  omega
theorem bok_succ {n i : Nat} {ws : List Ch} {b : Int} {A : Option Addr} {c : Nat} {xs : List Int} (h : BOK n (ws.take i)) (hg : ws[i]? = some (b, A, c, xs)) (hb : ¬ (¬ (0 ≤ b ∧ 256 * (42 + b) + 256 ≤ (n : Int)) ∨ ¬ (xs.length : Int) = 256)) : BOK n (ws.take (i + 1)) := fun r hr => by
  obtain ⟨hi, e⟩ := List.getElem?_eq_some_iff.1 hg
  rw [List.take_succ_eq_append_getElem hi, e] at hr
  rcases List.mem_append.1 hr with hr | hr
  · exact h r hr
  · rw [List.mem_singleton.1 hr]
    refine ⟨?_, ?_, ?_⟩ <;> simp only <;> omega
theorem bok_all {n i : Nat} {ws : List Ch} (h : BOK n (ws.take i)) (hi : ws.length ≤ i) : BOK n ws := by rwa [List.take_of_length_le hi] at h
def zero0 : Wt := [(0, List.replicate 256 0)]
def openL (l : Wt) : List Wt := [layL l, zero0]
def commitL (l : Wt) : List Wt := [logL 1 l, [(0, headL l)], layL l, zero0]
def commitP (n : Nat) (ss : List Int) (wt : Wt) (lf : Int) (dn : Bool) (ls : List Ch) : Int × List Int × Wt × Int × Bool :=
  if ls.length ≤ 40 ∧ BOK n ls then (if ls.length = 0 then syncR ss wt lf dn else phs n ss wt lf dn (commitL (dat ls))) else (1, ss, wt, lf, dn)
section
variable {n : Nat} {ss : List Int} {wt : Wt} {lf : Int} {dn : Bool} {ls : List Ch} {r : Int × List Int × Wt × Int × Bool}
theorem commit_bad (h : ¬ (ls.length ≤ 40 ∧ BOK n ls)) : (1, ss, wt, lf, dn) = commitP n ss wt lf dn ls := by rw [commitP, if_neg h]
theorem commit_sync (h : BOK n ls) (h0 : ls.length = 0) (hr : r = syncR ss wt lf dn) : r = commitP n ss wt lf dn ls := by rw [commitP, if_pos ⟨by omega, h⟩, if_pos h0, hr]
theorem commit_go (h : BOK n ls) (h4 : ls.length ≤ 40) (h0 : ¬ ls.length = 0) (hr : r = phs n ss wt lf dn (commitL (dat ls))) : r = commitP n ss wt lf dn ls := by rw [commitP, if_pos ⟨h4, h⟩, if_neg h0, hr]
end
end Go.Proofs.Ytlibhidhfbecbaa.SL.D
