/- The journal's laws: plain lemmas. -/
import Derived.Test.YtlibhidhfbecbaaJPure
import Derived.Test.YtlibhidhfbecbaaSLzn
namespace Go.Proofs.Ytlibhidhfbecbaa.SL.D
set_option linter.unusedVariables false
set_option linter.unusedSimpArgs false
open Go Go.Proofs.Ytlibhidhfbecbaa.SL Go.Proofs.Ytlibhidhfbecbaa.SL.W

def W256 (rs : List Ro) : Prop := ∀ r ∈ rs, r.2.2.length = 256
theorem W256.nil : W256 [] := fun r hr => by cases hr
theorem W256.app {rs : List Ro} {A : Option Addr} {c : Nat} {xs : List Int} (h : W256 rs) (hx : xs.length = 256) : W256 (rs ++ [(A, c, xs)]) := fun r hr => by
  rcases List.mem_append.1 hr with hr | hr
  · exact h r hr
  · rw [List.mem_singleton.1 hr]; exact hx
def rb (rs : List Ro) : List (List Int) := rs.map fun r => r.2.2
theorem rb_app (rs : List Ro) (A : Option Addr) (c : Nat) (xs : List Int) : rb (rs ++ [(A, c, xs)]) = rb rs ++ [xs] := by simp [rb]
def seenW (n : Nat) (ss : List Int) (wt : Wt) : List (List Int) := (List.range (n / 256 - 42)).map fun (i : Nat) => seenP ss wt (42 + (i : Int))
theorem act0 : actP 0 false = (0, false) := rfl
theorem wrs_calm {n : Nat} : ∀ {l wt : Wt}, WK n l → wrs n wt 0 false l = (0, wt ++ l, 0, false)
  | [], wt, _ => by rw [wrs, List.append_nil]
  | (b, x) :: l, wt, h => by
    obtain ⟨h0, h1, h2⟩ := h (b, x) List.mem_cons_self
    simp only at h0 h1 h2
    have e : writeP n wt 0 false b x = (0, wt ++ [(b, x)], 0, false) := by rw [writeP, if_neg (by omega), if_neg (by decide), act0]; rfl
    rw [wrs, e, if_pos rfl]
    simp only
    rw [wrs_calm (fun r hr => h r (List.mem_cons_of_mem _ hr)), List.append_assoc]
    rfl
def phsS : List Int → Wt → List Wt → List Int
  | ss, wt, [] => ss
  | ss, wt, l :: ls => phsS (syncP ss (wt ++ l)) [] ls
theorem sync0 (ss : List Int) (wt : Wt) : syncR ss wt 0 false = (0, syncP ss wt, [], 0, false) := by rw [syncR, if_neg (by decide), act0, if_neg (by decide)]
theorem phs_calm0 {n : Nat} : ∀ {ls : List Wt} {ss : List Int}, (∀ l ∈ ls, WK n l) → phs n ss [] 0 false ls = (0, phsS ss [] ls, [], 0, false)
  | [], ss, _ => rfl
  | l :: ls, ss, h => by
    rw [phs, wrs_calm (h l List.mem_cons_self), if_pos rfl]
    simp only
    rw [sync0, if_pos rfl]
    simp only
    rw [phs_calm0 (fun x hx => h x (List.mem_cons_of_mem _ hx)), phsS]
theorem phs_calm {n : Nat} {l : Wt} {ls : List Wt} {ss : List Int} {wt : Wt} (h : ∀ x ∈ l :: ls, WK n x) : phs n ss wt 0 false (l :: ls) = (0, phsS ss wt (l :: ls), [], 0, false) := by
  rw [phs, wrs_calm (h l List.mem_cons_self), if_pos rfl]
  simp only
  rw [sync0, if_pos rfl]
  simp only
  rw [phs_calm0 (fun x hx => h x (List.mem_cons_of_mem _ hx)), phsS]
theorem WK.app {n : Nat} {a b : Wt} (h : WK n a) (g : WK n b) : WK n (a ++ b) := fun r hr => (List.mem_append.1 hr).elim (h r) (g r)
theorem WK.nil (n : Nat) : WK n [] := fun r hr => by cases hr
theorem seen_app {ss : List Int} {w1 w2 : Wt} {x : Int} : seenP ss (w1 ++ w2) x = match w2.reverse.find? (fun r => decide (r.1 = x)) with | some r => r.2 | none => seenP ss w1 x := by
  rw [seenP, List.reverse_append, List.find?_append]
  cases w2.reverse.find? (fun r => decide (r.1 = x)) <;> rfl
theorem seen_of {ss : List Int} {w : Wt} {x : Int} : seenP ss w x = match w.reverse.find? (fun r => decide (r.1 = x)) with | some r => r.2 | none => seenP ss [] x := by
  rw [← seen_app, List.nil_append]
theorem seen_base {ss s2 : List Int} {w1 w2 : Wt} {x : Int} (h : seenP s2 [] x = seenP ss w1 x) : seenP s2 w2 x = seenP ss (w1 ++ w2) x := by
  rw [seen_of, seen_app, h]
theorem seen_synced {ss : List Int} {w : Wt} {n : Nat} {x : Int} (hs : ss.length = n) (hw : WK n w) (h0 : 0 ≤ x) (h1 : 256 * x + 256 ≤ n) : seenP (syncP ss w) [] x = seenP ss w x :=
  ((seen_sync hs hw).2 x h0 h1).symm
theorem find_none {w : Wt} {x : Int} (h : ∀ r ∈ w, r.1 ≠ x) : w.reverse.find? (fun r => decide (r.1 = x)) = none := by
  rw [List.find?_eq_none]
  intro r hr
  simpa using h r (List.mem_reverse.1 hr)
theorem seen_miss {ss : List Int} {w1 w : Wt} {x : Int} (h : ∀ r ∈ w, r.1 ≠ x) : seenP ss (w1 ++ w) x = seenP ss w1 x := by
  rw [seen_app, find_none h]
theorem seen_mid {ss : List Int} {w1 w w2 : Wt} {x : Int} (h : ∀ r ∈ w, r.1 ≠ x) : seenP ss (w1 ++ w ++ w2) x = seenP ss (w1 ++ w2) x := by
  rw [seen_app (w1 := w1 ++ w) (w2 := w2), seen_app (w1 := w1) (w2 := w2), seen_miss h]
theorem seen_phs {n : Nat} {x : Int} (h0 : 0 ≤ x) (h1 : 256 * x + 256 ≤ n) : ∀ {ls : List Wt} {l : Wt} {ss : List Int} {wt : Wt}, ss.length = n → WK n wt → (∀ y ∈ l :: ls, WK n y) → seenP (phsS ss wt (l :: ls)) [] x = seenP ss (wt ++ (l :: ls).flatten) x
  | [], l, ss, wt, hs, hw, h => by
    rw [phsS, phsS, seen_synced hs (hw.app (h l List.mem_cons_self)) h0 h1]
    simp
  | m :: ls, l, ss, wt, hs, hw, h => by
    have h2 := h l List.mem_cons_self
    rw [phsS, seen_phs h0 h1 (seen_sync hs (hw.app h2)).1 (WK.nil n) (fun y hy => h y (List.mem_cons_of_mem _ hy)), List.nil_append, seen_base (seen_synced hs (hw.app h2) h0 h1)]
    simp
def BW (n : Nat) (l : Wt) : Prop := ∀ r ∈ l, 0 ≤ r.1 ∧ 256 * (42 + r.1) + 256 ≤ n ∧ r.2.length = 256
theorem BOK.dat {n : Nat} {ws : List Ch} (h : BOK n ws) : BW n (dat ws) := fun r hr => by
  obtain ⟨q, hq, rfl⟩ := List.mem_map.1 hr
  exact h q hq
theorem bw_lay {n : Nat} {l : Wt} (h : BW n l) : WK n (layL l) := fun r hr => by
  obtain ⟨q, hq, rfl⟩ := List.mem_map.1 hr
  obtain ⟨h0, h1, h2⟩ := h q hq
  exact ⟨by simp only; omega, h1, h2⟩
theorem wk_zero {n : Nat} (hn : 256 * 43 ≤ n) : WK n zero0 := fun r hr => by
  rw [List.mem_singleton.1 hr]
  exact ⟨Int.le_refl 0, by simp only; omega, List.length_replicate⟩
theorem mem_log : ∀ {l : Wt} {k : Int} {r : Int × List Int}, r ∈ logL k l → k ≤ r.1 ∧ r.1 < k + l.length ∧ ∃ q ∈ l, r.2 = q.2
  | [], k, r, h => by cases h
  | (b, x) :: l, k, r, h => by
    rw [logL] at h
    rcases List.mem_cons.1 h with rfl | h
    · exact ⟨Int.le_refl _, by simp only [List.length_cons]; omega, (b, x), List.mem_cons_self, rfl⟩
    · obtain ⟨h1, h2, q, hq, h3⟩ := mem_log h
      exact ⟨by omega, by simp only [List.length_cons]; omega, q, List.mem_cons_of_mem _ hq, h3⟩
theorem bw_log {n : Nat} {l : Wt} (h : BW n l) (hl : l.length ≤ 40) (hn : 256 * 43 ≤ n) : WK n (logL 1 l) := fun r hr => by
  obtain ⟨h1, h2, q, hq, h3⟩ := mem_log hr
  exact ⟨by omega, by omega, by rw [h3]; exact (h q hq).2.2⟩
theorem head_len {l : Wt} (hl : l.length ≤ 40) : (headL l).length = 256 := by
  rw [headL, List.length_append, List.length_replicate, headB_len]
  omega
theorem wk_head {n : Nat} {l : Wt} (hl : l.length ≤ 40) (hn : 256 * 43 ≤ n) : WK n [(0, headL l)] := fun r hr => by
  rw [List.mem_singleton.1 hr]
  exact ⟨Int.le_refl 0, by simp only; omega, head_len hl⟩
theorem open_wk {n : Nat} {l : Wt} (h : BW n l) (hn : 256 * 43 ≤ n) : ∀ x ∈ openL l, WK n x := fun x hx => by
  simp only [openL, List.mem_cons, List.not_mem_nil, or_false] at hx
  rcases hx with rfl | rfl
  · exact bw_lay h
  · exact wk_zero hn
theorem commit_wk {n : Nat} {l : Wt} (h : BW n l) (hl : l.length ≤ 40) (hn : 256 * 43 ≤ n) : ∀ x ∈ commitL l, WK n x := fun x hx => by
  simp only [commitL, List.mem_cons, List.not_mem_nil, or_false] at hx
  rcases hx with rfl | rfl | rfl | rfl
  · exact bw_log h hl hn
  · exact wk_head hl hn
  · exact bw_lay h
  · exact wk_zero hn
theorem zero_miss {b : Int} (h : 0 ≤ b) : ∀ r ∈ zero0, r.1 ≠ 42 + b := fun r hr => by
  rw [List.mem_singleton.1 hr]
  simp only
  omega
theorem seen_len {n : Nat} {ss : List Int} {wt : Wt} {x : Int} (hs : ss.length = n) (hw : WK n wt) (h0 : 0 ≤ x) (h1 : 256 * x + 256 ≤ n) : (seenP ss wt x).length = 256 := by
  rw [(seen_sync hs hw).2 x h0 h1, List.length_take, List.length_drop, (seen_sync hs hw).1]
  omega
theorem logged_bw {n : Nat} {ss : List Int} {wt : Wt} (hs : ss.length = n) (hw : WK n wt) (hn : 256 * 43 ≤ n) : BW n (logged n ss wt) := fun r hr => by
  rw [logged] at hr
  by_cases hm : marked ss wt
  · rw [if_pos hm] at hr
    by_cases ha : ∀ r ∈ entries ss wt (leN ((seenP ss wt 0).drop 4) 4).toNat, there n r.1
    · rw [if_pos ha] at hr
      refine ⟨(ha r hr).1, (ha r hr).2, ?_⟩
      obtain ⟨i, hi, rfl⟩ := List.mem_map.1 hr
      have hi := List.mem_range.1 hi
      have hk := hm.2.2
      exact seen_len hs hw (by omega) (by omega)
    · rw [if_neg ha] at hr
      cases hr
  · rw [if_neg hm] at hr
    cases hr
section
variable {n : Nat} {ss s2 : List Int} {wt w2 : Wt} {e lf l2 : Int} {dn d2 : Bool}
theorem open_calm (h : (e, s2, w2, l2, d2) = phs n ss wt lf dn (openL (logged n ss wt))) (hc : Calm lf dn) (hs : ss.length = n) (hw : WK n wt) (hn : 256 * 43 ≤ n) : e = 0 ∧ Calm l2 d2 ∧ w2 = [] ∧ (∀ b : Int, 0 ≤ b → 256 * (42 + b) + 256 ≤ n → seenP s2 [] (42 + b) = seenP ss (wt ++ layL (logged n ss wt)) (42 + b)) ∧ seenP s2 [] 0 = List.replicate 256 0 := by
  obtain ⟨rfl, rfl⟩ := hc
  have hb := logged_bw hs hw hn
  have hk := open_wk hb hn
  have e1 : openL (logged n ss wt) = layL (logged n ss wt) :: [zero0] := rfl
  rw [e1] at hk
  rw [e1, phs_calm hk] at h
  obtain ⟨h1, h2, h3, h4, h5⟩ := pair5 h
  refine ⟨h1, ⟨h4, h5⟩, h3, fun b h0 hb1 => ?_, ?_⟩
  · rw [h2, seen_phs (by omega) hb1 hs hw hk]
    simp only [List.flatten_cons, List.flatten_nil, List.append_nil, ← List.append_assoc]
    rw [seen_miss (zero_miss h0)]
  · rw [h2, seen_phs (by omega) (by omega) hs hw hk]
    simp only [List.flatten_cons, List.flatten_nil, List.append_nil, ← List.append_assoc]
    exact seen_last
theorem logged_none (h : seenP ss wt 0 = List.replicate 256 0) : logged n ss wt = [] := by
  rw [logged, if_neg]
  intro g
  have h1 := g.1
  rw [h] at h1
  exact absurd h1 (by decide)
theorem commit_calm {ls : List Ch} (h : (e, s2, w2, l2, d2) = commitP n ss wt lf dn ls) (hc : Calm lf dn) (hs : ss.length = n) (hw : WK n wt) (hn : 256 * 43 ≤ n) (hb : BOK n ls) (hl : ls.length ≤ 40) :
    e = 0 ∧ Calm l2 d2 ∧ w2 = [] ∧ (∀ b : Int, 0 ≤ b → 256 * (42 + b) + 256 ≤ n → seenP s2 [] (42 + b) = seenP ss (wt ++ layL (dat ls)) (42 + b)) ∧ (seenP ss wt 0 = List.replicate 256 0 → seenP s2 [] 0 = List.replicate 256 0) := by
  obtain ⟨rfl, rfl⟩ := hc
  rw [commitP, if_pos ⟨hl, hb⟩] at h
  by_cases h0 : ls.length = 0
  · rw [if_pos h0, sync0] at h
    obtain ⟨h1, h2, h3, h4, h5⟩ := pair5 h
    have e1 : ls = [] := List.length_eq_zero_iff.1 h0
    refine ⟨h1, ⟨h4, h5⟩, h3, fun b g0 g1 => ?_, fun g => ?_⟩
    · rw [h2, e1, seen_synced hs hw (by omega) g1]
      show _ = seenP ss (wt ++ []) (42 + b)
      rw [List.append_nil]
    · rw [h2, seen_synced hs hw (by omega) (by omega), g]
  · rw [if_neg h0] at h
    have hk := commit_wk hb.dat (by rw [dat_len]; exact hl) hn
    have e1 : commitL (dat ls) = logL 1 (dat ls) :: [[(0, headL (dat ls))], layL (dat ls), zero0] := rfl
    rw [e1] at hk
    rw [e1, phs_calm hk] at h
    obtain ⟨h1, h2, h3, h4, h5⟩ := pair5 h
    refine ⟨h1, ⟨h4, h5⟩, h3, fun b g0 g1 => ?_, fun _ => ?_⟩
    · rw [h2, seen_phs (by omega) g1 hs hw hk]
      simp only [List.flatten_cons, List.flatten_nil, List.append_nil, ← List.append_assoc]
      rw [seen_miss (zero_miss g0), seen_mid (w := [(0, headL (dat ls))]), seen_mid]
      · intro r hr
        have := mem_log hr
        rw [dat_len] at this
        omega
      · intro r hr
        rw [List.mem_singleton.1 hr]
        simp only
        omega
    · rw [h2, seen_phs (by omega) (by omega) hs hw hk]
      simp only [List.flatten_cons, List.flatten_nil, List.append_nil, ← List.append_assoc]
      exact seen_last
end
section
variable {n : Nat} {s1 s1' s2 im3 : List Int} {w1 wB w2 w : Wt} {xa xb xc : List Ro}
end
def MOK (k : Int) (ls : List Ch) : Prop := ∀ r ∈ ls, 0 ≤ r.1 ∧ r.1 < k ∧ r.2.2.2.length = 256
instance (k : Int) (ls : List Ch) : Decidable (MOK k ls) := by unfold MOK; infer_instance
theorem MOK.nil (k : Int) : MOK k [] := fun r hr => by cases hr
theorem BOK.append {n : Nat} {a b : List Ch} (h : BOK n a) (g : BOK n b) : BOK n (a ++ b) := fun r hr => (List.mem_append.1 hr).elim (h r) (g r)
theorem layL_app (a b : Wt) : layL (a ++ b) = layL a ++ layL b := List.map_append
def SmallT (l : List Tr) (n : Nat) : Prop := ∀ (i : Nat) (r : Tr), i < n → l[i]? = some r → r.bl.length ≤ 60 ∧ r.kb.length ≤ 1000 ∧ r.qb.length ≤ 1000
theorem SmallT.zero (l : List Tr) : SmallT l 0 := fun i r h => by omega
theorem SmallT.succ {l : List Tr} {n : Nat} {r : Tr} (h : SmallT l n) (hg : l[n]? = some r) (h1 : r.bl.length ≤ 60) (h2 : r.kb.length ≤ 1000) (h3 : r.qb.length ≤ 1000) : SmallT l (n + 1) := fun i q hi hq => by
  by_cases e : i = n
  · subst e
    rw [hg] at hq
    cases hq
    exact ⟨h1, h2, h3⟩
  · exact h i q (by omega) hq
theorem SmallT.over {l : List Tr} {n : Nat} (h : SmallT l n) (hn : l.length ≤ n ∨ 12 ≤ n) : SmallT l 12 := fun i r hi hg => by
  have := (List.getElem?_eq_some_iff.1 hg).1
  exact h i r (by omega) hg
def C256 (ls : List Ch) : Prop := ∀ r ∈ ls, r.2.2.2.length = 256
theorem C256.nil : C256 [] := fun r hr => by cases hr
theorem C256.app {ls : List Ch} {b : Int} {A : Option Addr} {c : Nat} {xs : List Int} (h : C256 ls) (hx : xs.length = 256) : C256 (ls ++ [(b, A, c, xs)]) := fun r hr => by
  rcases List.mem_append.1 hr with hr | hr
  · exact h r hr
  · rw [List.mem_singleton.1 hr]; exact hx
theorem C256.at {ls : List Ch} {i : Nat} {b : Int} {A : Option Addr} {c : Nat} {xs : List Int} (h : C256 ls) (hg : ls[i]? = some (b, A, c, xs)) : xs.length = 256 := h _ (List.mem_of_getElem? hg)
section
variable {n m : Nat} {ss xs : List Int} {wt w2 : Wt} {e b lf l2 : Int} {dn d2 : Bool} {A : Option Addr} {c : Nat} {os zs : List Ro}
end
end Go.Proofs.Ytlibhidhfbecbaa.SL.D
