/- The journal's laws: plain lemmas. -/
import Derived.Test.YtaaplakahkgclaaJPure
import Derived.Test.YtaaplakahkgclaaSLzk
namespace Go.Proofs.Ytaaplakahkgclaa.SL.D
set_option linter.unusedVariables false
set_option linter.unusedSimpArgs false
open Go Go.Proofs.Ytaaplakahkgclaa.SL Go.Proofs.Ytaaplakahkgclaa.SL.W

def W256 (rs : List Ro) : Prop := ∀ r ∈ rs, r.2.2.length = 256
theorem W256.nil : W256 [] := fun r hr => by cases hr
theorem W256.app {rs : List Ro} {A : Option Addr} {c : Nat} {xs : List Int} (h : W256 rs) (hx : xs.length = 256) : W256 (rs ++ [(A, c, xs)]) := fun r hr => by
  rcases List.mem_append.1 hr with hr | hr
  · exact h r hr
  · rw [List.mem_singleton.1 hr]; exact hx
def rb (rs : List Ro) : List (List Int) := rs.map fun r => r.2.2
theorem rb_len (rs : List Ro) : (rb rs).length = rs.length := List.length_map _
theorem rb_app (rs : List Ro) (A : Option Addr) (c : Nat) (xs : List Int) : rb (rs ++ [(A, c, xs)]) = rb rs ++ [xs] := by simp [rb]
theorem rb_get {rs : List Ro} {i : Nat} {A : Option Addr} {c : Nat} {xs : List Int} (h : rs[i]? = some (A, c, xs)) : (rb rs)[i]? = some xs := by simp [rb, h]
theorem rb_ne {as bs : List Ro} {i : Nat} {A B : Option Addr} {c d : Nat} {xs ys : List Int} (h : as[i]? = some (A, c, xs)) (g : bs[i]? = some (B, d, ys)) (hn : ¬ xs = ys) : ¬ rb as = rb bs := fun e => by
  have h1 := rb_get h
  rw [e, rb_get g] at h1
  exact hn (Option.some.inj h1).symm
theorem rb_next {as bs : List Ro} {i : Nat} {A B : Option Addr} {c d : Nat} {xs ys : List Int} (hp : (rb as).take i = (rb bs).take i) (h : as[i]? = some (A, c, xs)) (g : bs[i]? = some (B, d, ys)) (hn : xs = ys) : (rb as).take (i + 1) = (rb bs).take (i + 1) := by
  obtain ⟨h1, e1⟩ := List.getElem?_eq_some_iff.1 (rb_get h)
  obtain ⟨h2, e2⟩ := List.getElem?_eq_some_iff.1 (rb_get g)
  rw [List.take_succ_eq_append_getElem h1, List.take_succ_eq_append_getElem h2, e1, e2, hp, hn]
theorem rb_eq {as bs : List Ro} {i : Nat} (hp : (rb as).take i = (rb bs).take i) (h1 : as.length ≤ i) (h2 : bs.length ≤ i) : rb as = rb bs := by
  rwa [List.take_of_length_le (by rw [rb_len]; exact h1), List.take_of_length_le (by rw [rb_len]; exact h2)] at hp
def seenW (n : Nat) (ss : List Int) (wt : Wt) : List (List Int) := (List.range (n / 256 - 42)).map fun (i : Nat) => seenP ss wt (42 + (i : Int))
def aheadP (im : List Int) : List (List Int) := (List.range ((im.length - 10752) / 256)).map fun (i : Nat) => (im.drop (256 * (42 + i))).take 256
def seenK (ss : List Int) (wt : Wt) (k : Nat) : List (List Int) := (List.range k).map fun (i : Nat) => seenP ss wt (42 + (i : Int))
def aheadK (im : List Int) (k : Nat) : List (List Int) := (List.range k).map fun (i : Nat) => (im.drop (256 * (42 + i))).take 256
theorem seenK_succ {ss zs : List Int} {wt : Wt} {os : List Ro} {A : Option Addr} {c : Nat} {i : Int} (h : rb os = seenK ss wt i.toNat) (h0 : 0 ≤ i) (hz : zs = seenP ss wt (42 + i)) : rb (os ++ [(A, c, zs)]) = seenK ss wt (i + 1).toNat := by
  rw [rb_app, h, hz, seenK, seenK, show (i + 1).toNat = i.toNat + 1 by omega, List.range_succ, List.map_append, List.map_singleton, show ((i.toNat : Nat) : Int) = i by omega]
theorem seenK_end {n : Nat} {ss : List Int} {wt : Wt} {os : List Ro} {k : Nat} (h : rb os = seenK ss wt k) (hk : k = n / 256 - 42) : rb os = seenW n ss wt := by rw [h, hk]; rfl
theorem aheadK_succ {im zs : List Int} {os : List Ro} {A : Option Addr} {c k : Nat} (h : rb os = aheadK im k) (hz : zs = (im.drop (256 * (42 + k))).take 256) : rb (os ++ [(A, c, zs)]) = aheadK im (k + 1) := by
  rw [rb_app, h, hz, aheadK, aheadK, List.range_succ, List.map_append, List.map_singleton]
theorem aheadK_end {im : List Int} {os : List Ro} {k : Nat} (h : rb os = aheadK im k) (hk : k = (im.length - 10752) / 256) : rb os = aheadP im := by rw [h, hk]; rfl
theorem wread_ok {n : Nat} {b e : Int} {ss zs : List Int} {wt : Wt} (h : (there n b ∧ e = 0 ∧ zs = seenP ss wt (42 + b) ∧ zs.length = 256) ∨ (¬ there n b ∧ e = 1 ∧ zs = [])) (h0 : 0 ≤ b) (h1 : 256 * (42 + b) + 256 ≤ n) : e = 0 ∧ zs = seenP ss wt (42 + b) ∧ zs.length = 256 := by
  rcases h with h | h
  · exact h.2
  · exact absurd ⟨h0, h1⟩ h.1
theorem wread_no {n : Nat} {b e : Int} {ss zs : List Int} {wt : Wt} (h : (there n b ∧ e = 0 ∧ zs = seenP ss wt (42 + b) ∧ zs.length = 256) ∨ (¬ there n b ∧ e = 1 ∧ zs = [])) (h1 : ¬ (0 ≤ b ∧ 256 * (42 + b) + 256 ≤ n)) : e = 1 := by
  rcases h with h | h
  · exact absurd h.1 h1
  · exact h.2.1
theorem act0 : actP 0 false = (0, false) := rfl
theorem wrs_calm {n : Nat} : ∀ {l wt : Wt}, WK n l → wrs n wt 0 false l = (0, wt ++ l, 0, false)
  | [], wt, _ => by rw [wrs, List.append_nil]
  | (b, x) :: l, wt, h => by
    obtain ⟨h0, h1, h2⟩ := h (b, x) List.mem_cons_self
    simp only at h0 h1 h2
    have e : writeP n wt 0 false b x = (0, wt ++ [(b, x)], 0, false) := by rw [writeP, if_neg (by omega), if_neg (by decide), act0]; rfl
    rw [wrs, e, if_pos rfl]
    simp only
    rw [wrs_calm (fun r hr => h r (List.mem_cons_of_mem _ hr)), List.append_assoc]
    rfl
def phsS : List Int → Wt → List Wt → List Int
  | ss, wt, [] => ss
  | ss, wt, l :: ls => phsS (syncP ss (wt ++ l)) [] ls
theorem sync0 (ss : List Int) (wt : Wt) : syncR ss wt 0 false = (0, syncP ss wt, [], 0, false) := by rw [syncR, if_neg (by decide), act0, if_neg (by decide)]
theorem phs_calm0 {n : Nat} : ∀ {ls : List Wt} {ss : List Int}, (∀ l ∈ ls, WK n l) → phs n ss [] 0 false ls = (0, phsS ss [] ls, [], 0, false)
  | [], ss, _ => rfl
  | l :: ls, ss, h => by
    rw [phs, wrs_calm (h l List.mem_cons_self), if_pos rfl]
    simp only
    rw [sync0, if_pos rfl]
    simp only
    rw [phs_calm0 (fun x hx => h x (List.mem_cons_of_mem _ hx)), phsS]
theorem phs_calm {n : Nat} {l : Wt} {ls : List Wt} {ss : List Int} {wt : Wt} (h : ∀ x ∈ l :: ls, WK n x) : phs n ss wt 0 false (l :: ls) = (0, phsS ss wt (l :: ls), [], 0, false) := by
  rw [phs, wrs_calm (h l List.mem_cons_self), if_pos rfl]
  simp only
  rw [sync0, if_pos rfl]
  simp only
  rw [phs_calm0 (fun x hx => h x (List.mem_cons_of_mem _ hx)), phsS]
theorem WK.app {n : Nat} {a b : Wt} (h : WK n a) (g : WK n b) : WK n (a ++ b) := fun r hr => (List.mem_append.1 hr).elim (h r) (g r)
theorem WK.nil (n : Nat) : WK n [] := fun r hr => by cases hr
theorem seen_app {ss : List Int} {w1 w2 : Wt} {x : Int} : seenP ss (w1 ++ w2) x = match w2.reverse.find? (fun r => decide (r.1 = x)) with | some r => r.2 | none => seenP ss w1 x := by
  rw [seenP, List.reverse_append, List.find?_append]
  cases w2.reverse.find? (fun r => decide (r.1 = x)) <;> rfl
theorem seen_of {ss : List Int} {w : Wt} {x : Int} : seenP ss w x = match w.reverse.find? (fun r => decide (r.1 = x)) with | some r => r.2 | none => seenP ss [] x := by
  rw [← seen_app, List.nil_append]
theorem seen_base {ss s2 : List Int} {w1 w2 : Wt} {x : Int} (h : seenP s2 [] x = seenP ss w1 x) : seenP s2 w2 x = seenP ss (w1 ++ w2) x := by
  rw [seen_of, seen_app, h]
theorem seen_synced {ss : List Int} {w : Wt} {n : Nat} {x : Int} (hs : ss.length = n) (hw : WK n w) (h0 : 0 ≤ x) (h1 : 256 * x + 256 ≤ n) : seenP (syncP ss w) [] x = seenP ss w x :=
  ((seen_sync hs hw).2 x h0 h1).symm
theorem find_none {w : Wt} {x : Int} (h : ∀ r ∈ w, r.1 ≠ x) : w.reverse.find? (fun r => decide (r.1 = x)) = none := by
  rw [List.find?_eq_none]
  intro r hr
  simpa using h r (List.mem_reverse.1 hr)
theorem seen_miss {ss : List Int} {w1 w : Wt} {x : Int} (h : ∀ r ∈ w, r.1 ≠ x) : seenP ss (w1 ++ w) x = seenP ss w1 x := by
  rw [seen_app, find_none h]
theorem seen_mid {ss : List Int} {w1 w w2 : Wt} {x : Int} (h : ∀ r ∈ w, r.1 ≠ x) : seenP ss (w1 ++ w ++ w2) x = seenP ss (w1 ++ w2) x := by
  rw [seen_app (w1 := w1 ++ w) (w2 := w2), seen_app (w1 := w1) (w2 := w2), seen_miss h]
theorem phsS_len {n : Nat} : ∀ {ls : List Wt} {ss : List Int} {wt : Wt}, ss.length = n → WK n wt → (∀ l ∈ ls, WK n l) → (phsS ss wt ls).length = n
  | [], ss, wt, hs, _, _ => hs
  | l :: ls, ss, wt, hs, hw, h => phsS_len (ls := ls) (ss := syncP ss (wt ++ l)) (wt := []) (seen_sync hs (hw.app (h l List.mem_cons_self))).1 (WK.nil n) (fun x hx => h x (List.mem_cons_of_mem _ hx))
theorem seen_phs {n : Nat} {x : Int} (h0 : 0 ≤ x) (h1 : 256 * x + 256 ≤ n) : ∀ {ls : List Wt} {l : Wt} {ss : List Int} {wt : Wt}, ss.length = n → WK n wt → (∀ y ∈ l :: ls, WK n y) → seenP (phsS ss wt (l :: ls)) [] x = seenP ss (wt ++ (l :: ls).flatten) x
  | [], l, ss, wt, hs, hw, h => by
    rw [phsS, phsS, seen_synced hs (hw.app (h l List.mem_cons_self)) h0 h1]
    simp
  | m :: ls, l, ss, wt, hs, hw, h => by
    have h2 := h l List.mem_cons_self
    rw [phsS, seen_phs h0 h1 (seen_sync hs (hw.app h2)).1 (WK.nil n) (fun y hy => h y (List.mem_cons_of_mem _ hy)), List.nil_append, seen_base (seen_synced hs (hw.app h2) h0 h1)]
    simp
def BW (n : Nat) (l : Wt) : Prop := ∀ r ∈ l, 0 ≤ r.1 ∧ 256 * (42 + r.1) + 256 ≤ n ∧ r.2.length = 256
theorem BOK.dat {n : Nat} {ws : List Ch} (h : BOK n ws) : BW n (dat ws) := fun r hr => by
  obtain ⟨q, hq, rfl⟩ := List.mem_map.1 hr
  exact h q hq
theorem bw_lay {n : Nat} {l : Wt} (h : BW n l) : WK n (layL l) := fun r hr => by
  obtain ⟨q, hq, rfl⟩ := List.mem_map.1 hr
  obtain ⟨h0, h1, h2⟩ := h q hq
  exact ⟨by simp only; omega, h1, h2⟩
theorem wk_zero {n : Nat} (hn : 256 * 43 ≤ n) : WK n zero0 := fun r hr => by
  rw [List.mem_singleton.1 hr]
  exact ⟨Int.le_refl 0, by simp only; omega, List.length_replicate⟩
theorem mem_log : ∀ {l : Wt} {k : Int} {r : Int × List Int}, r ∈ logL k l → k ≤ r.1 ∧ r.1 < k + l.length ∧ ∃ q ∈ l, r.2 = q.2
  | [], k, r, h => by cases h
  | (b, x) :: l, k, r, h => by
    rw [logL] at h
    rcases List.mem_cons.1 h with rfl | h
    · exact ⟨Int.le_refl _, by simp only [List.length_cons]; omega, (b, x), List.mem_cons_self, rfl⟩
    · obtain ⟨h1, h2, q, hq, h3⟩ := mem_log h
      exact ⟨by omega, by simp only [List.length_cons]; omega, q, List.mem_cons_of_mem _ hq, h3⟩
theorem bw_log {n : Nat} {l : Wt} (h : BW n l) (hl : l.length ≤ 40) (hn : 256 * 43 ≤ n) : WK n (logL 1 l) := fun r hr => by
  obtain ⟨h1, h2, q, hq, h3⟩ := mem_log hr
  exact ⟨by omega, by omega, by rw [h3]; exact (h q hq).2.2⟩
theorem head_len {l : Wt} (hl : l.length ≤ 40) : (headL l).length = 256 := by
  rw [headL, List.length_append, List.length_replicate, headB_len]
  omega
theorem wk_head {n : Nat} {l : Wt} (hl : l.length ≤ 40) (hn : 256 * 43 ≤ n) : WK n [(0, headL l)] := fun r hr => by
  rw [List.mem_singleton.1 hr]
  exact ⟨Int.le_refl 0, by simp only; omega, head_len hl⟩
theorem open_wk {n : Nat} {l : Wt} (h : BW n l) (hn : 256 * 43 ≤ n) : ∀ x ∈ openL l, WK n x := fun x hx => by
  simp only [openL, List.mem_cons, List.not_mem_nil, or_false] at hx
  rcases hx with rfl | rfl
  · exact bw_lay h
  · exact wk_zero hn
theorem commit_wk {n : Nat} {l : Wt} (h : BW n l) (hl : l.length ≤ 40) (hn : 256 * 43 ≤ n) : ∀ x ∈ commitL l, WK n x := fun x hx => by
  simp only [commitL, List.mem_cons, List.not_mem_nil, or_false] at hx
  rcases hx with rfl | rfl | rfl | rfl
  · exact bw_log h hl hn
  · exact wk_head hl hn
  · exact bw_lay h
  · exact wk_zero hn
theorem zero_miss {b : Int} (h : 0 ≤ b) : ∀ r ∈ zero0, r.1 ≠ 42 + b := fun r hr => by
  rw [List.mem_singleton.1 hr]
  simp only
  omega
theorem seen_len {n : Nat} {ss : List Int} {wt : Wt} {x : Int} (hs : ss.length = n) (hw : WK n wt) (h0 : 0 ≤ x) (h1 : 256 * x + 256 ≤ n) : (seenP ss wt x).length = 256 := by
  rw [(seen_sync hs hw).2 x h0 h1, List.length_take, List.length_drop, (seen_sync hs hw).1]
  omega
theorem logged_bw {n : Nat} {ss : List Int} {wt : Wt} (hs : ss.length = n) (hw : WK n wt) (hn : 256 * 43 ≤ n) : BW n (logged n ss wt) := fun r hr => by
  rw [logged] at hr
  by_cases hm : marked ss wt
  · rw [if_pos hm] at hr
    by_cases ha : ∀ r ∈ entries ss wt (leN ((seenP ss wt 0).drop 4) 4).toNat, there n r.1
    · rw [if_pos ha] at hr
      refine ⟨(ha r hr).1, (ha r hr).2, ?_⟩
      obtain ⟨i, hi, rfl⟩ := List.mem_map.1 hr
      have hi := List.mem_range.1 hi
      have hk := hm.2.2
      exact seen_len hs hw (by omega) (by omega)
    · rw [if_neg ha] at hr
      cases hr
  · rw [if_neg hm] at hr
    cases hr
section
variable {n : Nat} {ss s2 : List Int} {wt w2 : Wt} {e lf l2 : Int} {dn d2 : Bool}
theorem open_calm (h : (e, s2, w2, l2, d2) = phs n ss wt lf dn (openL (logged n ss wt))) (hc : Calm lf dn) (hs : ss.length = n) (hw : WK n wt) (hn : 256 * 43 ≤ n) : e = 0 ∧ Calm l2 d2 ∧ w2 = [] ∧ (∀ b : Int, 0 ≤ b → 256 * (42 + b) + 256 ≤ n → seenP s2 [] (42 + b) = seenP ss (wt ++ layL (logged n ss wt)) (42 + b)) ∧ seenP s2 [] 0 = List.replicate 256 0 := by
  obtain ⟨rfl, rfl⟩ := hc
  have hb := logged_bw hs hw hn
  have hk := open_wk hb hn
  have e1 : openL (logged n ss wt) = layL (logged n ss wt) :: [zero0] := rfl
  rw [e1] at hk
  rw [e1, phs_calm hk] at h
  obtain ⟨h1, h2, h3, h4, h5⟩ := pair5 h
  refine ⟨h1, ⟨h4, h5⟩, h3, fun b h0 hb1 => ?_, ?_⟩
  · rw [h2, seen_phs (by omega) hb1 hs hw hk]
    simp only [List.flatten_cons, List.flatten_nil, List.append_nil, ← List.append_assoc]
    rw [seen_miss (zero_miss h0)]
  · rw [h2, seen_phs (by omega) (by omega) hs hw hk]
    simp only [List.flatten_cons, List.flatten_nil, List.append_nil, ← List.append_assoc]
    exact seen_last
theorem logged_none (h : seenP ss wt 0 = List.replicate 256 0) : logged n ss wt = [] := by
  rw [logged, if_neg]
  intro g
  have h1 := g.1
  rw [h] at h1
  exact absurd h1 (by decide)
theorem commit_calm {ls : List Ch} (h : (e, s2, w2, l2, d2) = commitP n ss wt lf dn ls) (hc : Calm lf dn) (hs : ss.length = n) (hw : WK n wt) (hn : 256 * 43 ≤ n) (hb : BOK n ls) (hl : ls.length ≤ 40) :
    e = 0 ∧ Calm l2 d2 ∧ w2 = [] ∧ (∀ b : Int, 0 ≤ b → 256 * (42 + b) + 256 ≤ n → seenP s2 [] (42 + b) = seenP ss (wt ++ layL (dat ls)) (42 + b)) ∧ (seenP ss wt 0 = List.replicate 256 0 → seenP s2 [] 0 = List.replicate 256 0) := by
  obtain ⟨rfl, rfl⟩ := hc
  rw [commitP, if_pos ⟨hl, hb⟩] at h
  by_cases h0 : ls.length = 0
  · rw [if_pos h0, sync0] at h
    obtain ⟨h1, h2, h3, h4, h5⟩ := pair5 h
    have e1 : ls = [] := List.length_eq_zero_iff.1 h0
    refine ⟨h1, ⟨h4, h5⟩, h3, fun b g0 g1 => ?_, fun g => ?_⟩
    · rw [h2, e1, seen_synced hs hw (by omega) g1]
      show _ = seenP ss (wt ++ []) (42 + b)
      rw [List.append_nil]
    · rw [h2, seen_synced hs hw (by omega) (by omega), g]
  · rw [if_neg h0] at h
    have hk := commit_wk hb.dat (by rw [dat_len]; exact hl) hn
    have e1 : commitL (dat ls) = logL 1 (dat ls) :: [[(0, headL (dat ls))], layL (dat ls), zero0] := rfl
    rw [e1] at hk
    rw [e1, phs_calm hk] at h
    obtain ⟨h1, h2, h3, h4, h5⟩ := pair5 h
    refine ⟨h1, ⟨h4, h5⟩, h3, fun b g0 g1 => ?_, fun _ => ?_⟩
    · rw [h2, seen_phs (by omega) g1 hs hw hk]
      simp only [List.flatten_cons, List.flatten_nil, List.append_nil, ← List.append_assoc]
      rw [seen_miss (zero_miss g0), seen_mid (w := [(0, headL (dat ls))]), seen_mid]
      · intro r hr
        have := mem_log hr
        rw [dat_len] at this
        omega
      · intro r hr
        rw [List.mem_singleton.1 hr]
        simp only
        omega
    · rw [h2, seen_phs (by omega) (by omega) hs hw hk]
      simp only [List.flatten_cons, List.flatten_nil, List.append_nil, ← List.append_assoc]
      exact seen_last
end
theorem seenW_eq {n : Nat} {s1 s2 : List Int} {w1 w2 : Wt} (h : ∀ b : Int, 0 ≤ b → 256 * (42 + b) + 256 ≤ n → seenP s2 w2 (42 + b) = seenP s1 w1 (42 + b)) : seenW n s2 w2 = seenW n s1 w1 := by
  refine List.map_congr_left (fun i hi => ?_)
  have := List.mem_range.1 hi
  exact h i (by omega) (by omega)
theorem ahead_eq {n : Nat} {s : List Int} (hs : s.length = n) (hn : 256 * 43 ≤ n) : aheadP s = seenW n s [] := by
  rw [aheadP, seenW, show (s.length - 10752) / 256 = n / 256 - 42 by omega]
  refine List.map_congr_left (fun i hi => ?_)
  show _ = (s.drop (256 * (42 + (i : Int)).toNat)).take 256
  rw [show (42 + (i : Int)).toNat = 42 + i by omega]
theorem commit_no {n : Nat} {ss s2 : List Int} {wt w2 : Wt} {e lf l2 : Int} {dn d2 : Bool} {ls : List Ch} (h : (e, s2, w2, l2, d2) = commitP n ss wt lf dn ls) (hb : ¬ BOK n ls) : e = 1 ∧ s2 = ss ∧ w2 = wt ∧ l2 = lf ∧ d2 = dn := by
  rw [commitP, if_neg (fun g => hb g.2)] at h
  exact pair5 h
theorem bok2 {n : Nat} {a b : Int} {A B : Option Addr} {c d : Nat} {xs ys : List Int} (ha : 0 ≤ a) (ha2 : 256 * (42 + a) + 256 ≤ n) (hx : xs.length = 256) (hb : 0 ≤ b) (hb2 : 256 * (42 + b) + 256 ≤ n) (hy : ys.length = 256) : BOK n [(a, A, c, xs), (b, B, d, ys)] := fun r hr => by
  simp only [List.mem_cons, List.not_mem_nil, or_false] at hr
  rcases hr with rfl | rfl
  · exact ⟨ha, ha2, hx⟩
  · exact ⟨hb, hb2, hy⟩
theorem bok1_no {n : Nat} {a : Int} {A : Option Addr} {c : Nat} {xs : List Int} (h : ¬ 256 * (42 + a) + 256 ≤ n) : ¬ BOK n [(a, A, c, xs)] := fun g => h (g _ List.mem_cons_self).2.1
theorem chok2 {a b : Int} {A B : Option Addr} {c d : Nat} {xs ys : List Int} (ha : fits .i64 a) (hx : In .u8 xs) (hx1 : xs.length ≤ c) (hx2 : xs.length ≤ 140737488351232) (hb : fits .i64 b) (hy : In .u8 ys) (hy1 : ys.length ≤ d) (hy2 : ys.length ≤ 140737488351232) : ChOK .u8 [(a, A, c, xs), (b, B, d, ys)] := fun r hr => by
  simp only [List.mem_cons, List.not_mem_nil, or_false] at hr
  rcases hr with rfl | rfl
  · exact ⟨ha, hx, hx1, hx2⟩
  · exact ⟨hb, hy, hy1, hy2⟩
theorem awake_w {n : Nat} {x s0 s2 s3 s4 z1 z2 : List Int} {w0 w3 : Wt} {A B : Option Addr} {c d : Nat} (hx : x = seenP s4 (dat []) (42 + 1)) (h4 : s4 = crashP s3 w3 []) (h3 : s3 = s2)
    (hq : ∀ b : Int, 0 ≤ b → 256 * (42 + b) + 256 ≤ n → seenP s2 [] (42 + b) = seenP s0 (w0 ++ layL (dat [(0, A, c, z1), (1, B, d, z2)])) (42 + b)) (hn : 256 * 44 ≤ n) (hz : z2 = fullL [2]) : x.getD 0 0 = 2 := by
  rw [hx, h4, crashP_nil, h3]
  have h := hq 1 (by decide) (by omega)
  have e : layL (dat [(0, A, c, z1), (1, B, d, z2)]) = [(42 + 0, z1)] ++ [(42 + 1, z2)] := rfl
  rw [e, ← List.append_assoc, seen_last] at h
  show (seenP s2 [] (42 + 1)).getD 0 0 = 2
  rw [h, hz]
  decide +kernel
section
variable {n : Nat} {s1 s1' s2 im3 : List Int} {w1 wB w2 w : Wt} {xa xb xc : List Ro}
theorem opens_seen (hd : ∀ b : Int, 0 ≤ b → 256 * (42 + b) + 256 ≤ n → seenP s2 [] (42 + b) = seenP s1' (dat [] ++ layL (logged n s1' (dat []))) (42 + b)) (hc : s1' = crashP s1 w []) (hz : seenP s1 [] 0 = List.replicate 256 0) : seenW n s2 [] = seenW n s1 [] := by
  rw [crashP_nil] at hc
  subst hc
  have e : logged n s1' (dat []) = [] := logged_none (wt := dat []) hz
  refine seenW_eq (fun b h0 h1 => ?_)
  rw [hd b h0 h1, e]
  rfl
end
theorem _root_.Go.Proofs.Ytaaplakahkgclaa.SL.In.atI {xs : List Int} (h : In .i64 xs) (i : Nat) : fits .i64 (xs.getD i 0) := by
  rw [List.getD_eq_getElem?_getD]
  by_cases hi : i < xs.length
  · rw [List.getElem?_eq_getElem hi]; exact h _ (List.getElem_mem hi)
  · rw [List.getElem?_eq_none (by omega)]; exact fits_zero _
def xOf (yl : List Int) (i : Nat) : Int := if i < yl.length then yl.getD i 0 else (i : Int)
def chg (bl yl : List Int) (i : Nat) : Int × List Int := (bl.getD i 0, fullL [xOf yl i, (i : Int), xOf yl i])
def chgN (bl yl : List Int) (k : Nat) : Wt := (List.range k).map (chg bl yl)
theorem chg_step {bl yl zs : List Int} {l3 : List Ch} {A : Option Addr} {c : Nat} {i x : Int} (h : dat l3 = chgN bl yl i.toNat) (h0 : 0 ≤ i) (hz : zs = fullL [x, i, x]) (hx : x = xOf yl i.toNat) : dat (l3 ++ [(bl.getD i.toNat 0, A, c, zs)]) = chgN bl yl (i + 1).toNat := by
  rw [dat_app, h, hz, hx, show (i + 1).toNat = i.toNat + 1 by omega, chgN, chgN, List.range_succ, List.map_append, List.map_singleton, chg, show ((i.toNat : Nat) : Int) = i by omega]
def MOK (k : Int) (ls : List Ch) : Prop := ∀ r ∈ ls, 0 ≤ r.1 ∧ r.1 < k ∧ r.2.2.2.length = 256
instance (k : Int) (ls : List Ch) : Decidable (MOK k ls) := by unfold MOK; infer_instance
theorem MOK.nil (k : Int) : MOK k [] := fun r hr => by cases hr
theorem mok_at {k : Int} {i : Nat} {ws : List Ch} {b : Int} {A : Option Addr} {c : Nat} {xs : List Int} (h : MOK k ws) (hg : ws[i]? = some (b, A, c, xs)) : 0 ≤ b ∧ b < k ∧ xs.length = 256 := h _ (List.mem_of_getElem? hg)
theorem mok_succ {k : Int} {i : Nat} {ws : List Ch} {b : Int} {A : Option Addr} {c : Nat} {xs : List Int} (h : MOK k (ws.take i)) (hg : ws[i]? = some (b, A, c, xs)) (h0 : 0 ≤ b) (h1 : b < k) (h2 : xs.length = 256) : MOK k (ws.take (i + 1)) := fun r hr => by
  obtain ⟨hi, e⟩ := List.getElem?_eq_some_iff.1 hg
  rw [List.take_succ_eq_append_getElem hi, e] at hr
  rcases List.mem_append.1 hr with hr | hr
  · exact h r hr
  · rw [List.mem_singleton.1 hr]; exact ⟨h0, h1, h2⟩
theorem mok_all {k : Int} {i : Nat} {ws : List Ch} (h : MOK k (ws.take i)) (hi : ws.length ≤ i) : MOK k ws := by rwa [List.take_of_length_le hi] at h
theorem mok_bok {m n : Nat} {ls : List Ch} (h : m ≤ 40 ∧ MOK 8 ls) (hn : n = 12800) : BOK n ls := fun r hr => by
  have := h.2 r hr
  exact ⟨this.1, by omega, this.2.2⟩
theorem BOK.append {n : Nat} {a b : List Ch} (h : BOK n a) (g : BOK n b) : BOK n (a ++ b) := fun r hr => (List.mem_append.1 hr).elim (h r) (g r)
theorem seen_dup {ss : List Int} {a b : Wt} {x : Int} : seenP ss (a ++ a ++ b) x = seenP ss (a ++ b) x := by
  rw [seen_app (w1 := a ++ a) (w2 := b), seen_app (w1 := a) (w2 := b), seen_app (w1 := a) (w2 := a)]
  rw [seen_of (w := a)]
  cases b.reverse.find? (fun r => decide (r.1 = x)) with
  | some r => rfl
  | none => cases h : a.reverse.find? (fun r => decide (r.1 = x)) <;> simp only
theorem n50 {n : Nat} (h : (n : Int) = 256 * max 0 (min 50 2176)) : n = 12800 := by omega
def SmallT (l : List Tr) (n : Nat) : Prop := ∀ (i : Nat) (r : Tr), i < n → l[i]? = some r → r.bl.length ≤ 60 ∧ r.kb.length ≤ 1000 ∧ r.qb.length ≤ 1000
theorem SmallT.zero (l : List Tr) : SmallT l 0 := fun i r h => by omega
theorem SmallT.succ {l : List Tr} {n : Nat} {r : Tr} (h : SmallT l n) (hg : l[n]? = some r) (h1 : r.bl.length ≤ 60) (h2 : r.kb.length ≤ 1000) (h3 : r.qb.length ≤ 1000) : SmallT l (n + 1) := fun i q hi hq => by
  by_cases e : i = n
  · subst e
    rw [hg] at hq
    cases hq
    exact ⟨h1, h2, h3⟩
  · exact h i q (by omega) hq
theorem SmallT.over {l : List Tr} {n : Nat} (h : SmallT l n) (hn : l.length ≤ n ∨ 12 ≤ n) : SmallT l 12 := fun i r hi hg => by
  have := (List.getElem?_eq_some_iff.1 hg).1
  exact h i r (by omega) hg
def C256 (ls : List Ch) : Prop := ∀ r ∈ ls, r.2.2.2.length = 256
theorem C256.nil : C256 [] := fun r hr => by cases hr
theorem C256.app {ls : List Ch} {b : Int} {A : Option Addr} {c : Nat} {xs : List Int} (h : C256 ls) (hx : xs.length = 256) : C256 (ls ++ [(b, A, c, xs)]) := fun r hr => by
  rcases List.mem_append.1 hr with hr | hr
  · exact h r hr
  · rw [List.mem_singleton.1 hr]; exact hx
theorem C256.at {ls : List Ch} {i : Nat} {b : Int} {A : Option Addr} {c : Nat} {xs : List Int} (h : C256 ls) (hg : ls[i]? = some (b, A, c, xs)) : xs.length = 256 := h _ (List.mem_of_getElem? hg)
def doneP (bl : List (List Int)) (l : Wt) : List (List Int) := l.foldl (fun a r => a.set r.1.toNat r.2) bl
theorem rb_set (os : List Ro) (i : Nat) (A : Option Addr) (c : Nat) (xs : List Int) : rb (os.set i (A, c, xs)) = (rb os).set i xs := List.map_set
theorem done_step {bl : List (List Int)} {os : List Ro} {l : Wt} {i : Nat} {b : Int} {xs : List Int} {A : Option Addr} {c : Nat} (h : rb os = doneP bl (l.take i)) (hg : l[i]? = some (b, xs)) : rb (os.set b.toNat (A, c, xs)) = doneP bl (l.take (i + 1)) := by
  obtain ⟨hi, e⟩ := List.getElem?_eq_some_iff.1 hg
  rw [rb_set, h, List.take_succ_eq_append_getElem hi, e, doneP, doneP, List.foldl_append]
  rfl
theorem seenW_set {n : Nat} {ss xs : List Int} {wt : Wt} {b : Int} (h0 : 0 ≤ b) : (seenW n ss wt).set b.toNat xs = seenW n ss (wt ++ [(42 + b, xs)]) := by
  apply List.ext_getElem?
  intro i
  rw [List.getElem?_set, seenW, seenW, List.length_map, List.length_range]
  by_cases hi : i < n / 256 - 42
  · rw [List.getElem?_map, List.getElem?_map, List.getElem?_range hi]
    simp only [Option.map_some]
    rw [seen_snoc]
    by_cases e : b.toNat = i
    · rw [if_pos e, if_pos (by omega), if_pos (by omega)]
    · rw [if_neg e, if_neg (by omega)]
  · rw [List.getElem?_eq_none (by simp; omega), List.getElem?_eq_none (by simp; omega)]
    by_cases e : b.toNat = i
    · rw [if_pos e, if_neg (by omega)]
    · rw [if_neg e]
section
variable {n m : Nat} {ss xs : List Int} {wt w2 : Wt} {e b lf l2 : Int} {dn d2 : Bool} {A : Option Addr} {c : Nat} {os zs : List Ro}
end
theorem seen8 {n k : Nat} {ss : List Int} {wt : Wt} {zs : List Ro} (h : rb zs = seenW n ss wt) (hl : zs.length = k) (hn : n = 12800) : k = 8 := by
  have e := congrArg List.length h
  rw [rb_len, seenW, List.length_map, List.length_range, hn] at e
  omega
end Go.Proofs.Ytaaplakahkgclaa.SL.D
