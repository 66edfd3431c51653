/- The journal is atomic: plain lemmas. -/
import Derived.Test.YtaaplakahkgclaaQPure
namespace Go.Proofs.Ytaaplakahkgclaa.SL.D
set_option linter.unusedVariables false
set_option linter.unusedSimpArgs false
open Go Go.Proofs.Ytaaplakahkgclaa.SL Go.Proofs.Ytaaplakahkgclaa.SL.W

theorem act_ok {lf : Int} (h : 0 ≤ lf) : (∃ l2, 0 ≤ l2 ∧ actP lf false = (l2, false)) ∨ actP lf false = (0, true) := by
  rw [actP]
  by_cases h0 : lf > 0
  · rw [if_pos h0]
    by_cases h1 : lf - 1 = 0
    · right; rw [h1]; rfl
    · left; exact ⟨lf - 1, by omega, by rw [decide_eq_false h1]⟩
  · left; rw [if_neg h0]; exact ⟨lf, h, rfl⟩
theorem wrs_pow {n : Nat} : ∀ {l wt : Wt} {lf : Int}, WK n l → 0 ≤ lf → (∃ l2, 0 ≤ l2 ∧ wrs n wt lf false l = (0, wt ++ l, l2, false)) ∨ ∃ p, p <+: l ∧ wrs n wt lf false l = (11, wt ++ p, 0, true)
  | [], wt, lf, _, h => .inl ⟨lf, h, by rw [wrs, List.append_nil]⟩
  | (b, x) :: l, wt, lf, hk, h => by
    obtain ⟨h0, h1, h2⟩ := hk (b, x) List.mem_cons_self
    simp only at h0 h1 h2
    rcases act_ok h with ⟨l2, g, e⟩ | e
    · have ew : writeP n wt lf false b x = (0, wt ++ [(b, x)], l2, false) := by rw [writeP, if_neg (by omega), if_neg (by decide), e]; rfl
      rw [wrs, ew, if_pos rfl]
      simp only
      rcases wrs_pow (wt := wt ++ [(b, x)]) (fun r hr => hk r (List.mem_cons_of_mem _ hr)) g with ⟨l3, g3, e3⟩ | ⟨p, hp, e3⟩
      · exact .inl ⟨l3, g3, by rw [e3, List.append_assoc]; rfl⟩
      · exact .inr ⟨(b, x) :: p, by rw [List.prefix_cons_inj]; exact hp, by rw [e3, List.append_assoc]; rfl⟩
    · have ew : writeP n wt lf false b x = (11, wt ++ [(b, x)], 0, true) := by rw [writeP, if_neg (by omega), if_neg (by decide), e]; rfl
      rw [wrs, ew, if_neg (show ¬ (11 : Int) = 0 by decide)]
      exact .inr ⟨[(b, x)], by rw [List.prefix_cons_inj]; exact List.nil_prefix, rfl⟩
theorem sync_pow {lf : Int} (h : 0 ≤ lf) (ss : List Int) (wt : Wt) : (∃ l2, 0 ≤ l2 ∧ syncR ss wt lf false = (0, syncP ss wt, [], l2, false)) ∨ syncR ss wt lf false = (11, ss, wt, 0, true) := by
  rw [syncR, if_neg (by decide)]
  rcases act_ok h with ⟨l2, g, e⟩ | e
  · rw [e]; exact .inl ⟨l2, g, rfl⟩
  · rw [e]; exact .inr rfl
theorem phs_pow {n : Nat} : ∀ {ls : List Wt} {ss : List Int} {lf : Int}, (∀ l ∈ ls, WK n l) → 0 ≤ lf → (∃ l2, phs n ss [] lf false ls = (0, phsS ss [] ls, [], l2, false)) ∨ ∃ pre l post p, ls = pre ++ l :: post ∧ p <+: l ∧ phs n ss [] lf false ls = (11, phsS ss [] pre, p, 0, true)
  | [], ss, lf, _, _ => .inl ⟨lf, rfl⟩
  | l :: ls, ss, lf, hk, h => by
    rcases wrs_pow (n := n) (wt := []) (hk l List.mem_cons_self) h with ⟨l2, g, e⟩ | ⟨p, hp, e⟩
    · rw [List.nil_append] at e
      rw [phs, e, if_pos rfl]
      simp only
      rcases sync_pow g ss l with ⟨l3, g3, e3⟩ | e3
      · rw [e3, if_pos rfl]
        simp only
        rcases phs_pow (ss := syncP ss l) (fun x hx => hk x (List.mem_cons_of_mem _ hx)) g3 with ⟨l4, e4⟩ | ⟨pre, l', post, p, e5, hp, e4⟩
        · exact .inl ⟨l4, by rw [e4]; rfl⟩
        · exact .inr ⟨l :: pre, l', post, p, by rw [e5]; rfl, hp, by rw [e4]; rfl⟩
      · rw [e3, if_neg (show ¬ (11 : Int) = 0 by decide)]
        exact .inr ⟨[], l, ls, l, rfl, List.prefix_refl _, rfl⟩
    · rw [List.nil_append] at e
      rw [phs, e, if_neg (show ¬ (11 : Int) = 0 by decide)]
      exact .inr ⟨[], l, ls, p, rfl, hp, rfl⟩
def keepN (wt : Wt) (ks : List Bool) : Nat → Wt
  | 0 => []
  | n + 1 => if ks.getD n false = true then keepN wt ks n ++ [wt.getD n (0, [])] else keepN wt ks n
theorem crash_keep {ss : List Int} {wt : Wt} {ks : List Bool} : ∀ n, crashN ss wt ks n = syncP ss (keepN wt ks n)
  | 0 => rfl
  | n + 1 => by
    rw [crashN, keepN, crash_keep n]
    split
    · simp [syncP]
    · rfl
theorem keep_mem {wt : Wt} {ks : List Bool} : ∀ {n}, n ≤ wt.length → ∀ r ∈ keepN wt ks n, r ∈ wt
  | 0, _, r, h => by cases h
  | n + 1, hn, r, h => by
    rw [keepN] at h
    split at h
    · rcases List.mem_append.1 h with h | h
      · exact keep_mem (by omega) r h
      · rw [List.mem_singleton.1 h, List.getD_eq_getElem?_getD, List.getElem?_eq_getElem (by omega)]
        exact List.getElem_mem _
    · exact keep_mem (by omega) r h
def kept (wt : Wt) (ks : List Bool) : Wt := keepN wt ks wt.length
theorem crashP_kept (ss : List Int) (wt : Wt) (ks : List Bool) : crashP ss wt ks = syncP ss (kept wt ks) := crash_keep _
theorem kept_mem {wt : Wt} {ks : List Bool} : ∀ r ∈ kept wt ks, r ∈ wt := keep_mem (Nat.le_refl _)
theorem kept_one {r : Int × List Int} {ks : List Bool} {p : Wt} (hp : p <+: [r]) : kept p ks = [] ∨ kept p ks = [r] := by
  obtain ⟨t, ht⟩ := hp
  match p, ht with
  | [], _ => exact .inl rfl
  | [a], ht =>
    have e : a = r := by simpa using (List.cons.inj ht).1
    subst e
    rw [kept]
    show keepN [a] ks 1 = [] ∨ keepN [a] ks 1 = [a]
    rw [keepN, keepN]
    split
    · right; rfl
    · left; rfl
  | a :: b :: p, ht => simp at ht
def view (n : Nat) (s : List Int) : List (List Int) := seenW n s (layL (logged n s []))
theorem seen_phsS {n : Nat} {x : Int} (h0 : 0 ≤ x) (h1 : 256 * x + 256 ≤ n) {ss : List Int} {pre : List Wt} (hs : ss.length = n) (h : ∀ y ∈ pre, WK n y) : seenP (phsS ss [] pre) [] x = seenP ss pre.flatten x := by
  cases pre with
  | nil => rfl
  | cons l ls => rw [seen_phs h0 h1 hs (WK.nil n) h, List.nil_append]
theorem seen_cut {n : Nat} {x : Int} (h0 : 0 ≤ x) (h1 : 256 * x + 256 ≤ n) {ss : List Int} {pre : List Wt} {q w : Wt} (hs : ss.length = n) (h : ∀ y ∈ pre, WK n y) (hq : WK n q) : seenP (syncP (phsS ss [] pre) q) w x = seenP ss (pre.flatten ++ q ++ w) x := by
  have e := phsS_len (n := n) (ls := pre) (ss := ss) (wt := []) hs (WK.nil n) h
  refine seen_base ?_
  rw [seen_synced e hq h0 h1, seen_base (seen_phsS h0 h1 hs h)]
theorem cut_len {n : Nat} {ss : List Int} {pre : List Wt} {q : Wt} (hs : ss.length = n) (h : ∀ y ∈ pre, WK n y) (hq : WK n q) : (syncP (phsS ss [] pre) q).length = n :=
  (seen_sync (phsS_len (n := n) (ls := pre) (ss := ss) (wt := []) hs (WK.nil n) h) hq).1
theorem seen_cover {ss : List Int} {w0 q w : Wt} {x : Int} (h : ∀ r ∈ q, ∃ r' ∈ w, r'.1 = r.1) : seenP ss (w0 ++ q ++ w) x = seenP ss (w0 ++ w) x := by
  rw [seen_app (w1 := w0 ++ q) (w2 := w), seen_app (w1 := w0) (w2 := w)]
  cases hf : w.reverse.find? (fun r => decide (r.1 = x)) with
  | some r => rfl
  | none =>
    have hm : ∀ r ∈ q, r.1 ≠ x := fun r hr e => by
      obtain ⟨r', hr', e'⟩ := h r hr
      have := List.find?_eq_none.1 hf r' (List.mem_reverse.2 hr')
      simp at this
      exact this (e'.trans e)
    simp only
    exact seen_miss hm
theorem logged_congr {n : Nat} {s1 s2 : List Int} {w1 w2 : Wt} (h : ∀ x : Int, 0 ≤ x → x ≤ 40 → seenP s1 w1 x = seenP s2 w2 x) : logged n s1 w1 = logged n s2 w2 := by
  have h0 := h 0 (by decide) (by decide)
  have hm : marked s1 w1 ↔ marked s2 w2 := by unfold marked; rw [h0]
  have he : marked s2 w2 → entries s1 w1 (leN ((seenP s2 w2 0).drop 4) 4).toNat = entries s2 w2 (leN ((seenP s2 w2 0).drop 4) 4).toNat := fun g => by
    refine List.map_congr_left (fun i hi => ?_)
    have := List.mem_range.1 hi
    have := g.2.2
    rw [entry, entry, h0, h (1 + (i : Int)) (by omega) (by omega)]
  rw [logged, logged]
  by_cases g : marked s2 w2
  · rw [if_pos g, if_pos (hm.2 g), h0, he g]
  · rw [if_neg g, if_neg (fun x => g (hm.1 x))]
theorem lay_ge {n : Nat} {l : Wt} (h : BW n l) : ∀ r ∈ layL l, 42 ≤ r.1 := fun r hr => by
  obtain ⟨q, hq, rfl⟩ := List.mem_map.1 hr
  have := (h q hq).1
  simp only
  omega
theorem view_of {n : Nat} {s s0 : List Int} {w l : Wt} (hl : logged n s [] = l) (h : ∀ b : Int, 0 ≤ b → 256 * (42 + b) + 256 ≤ n → seenP s (layL l) (42 + b) = seenP s0 w (42 + b)) : view n s = seenW n s0 w := by
  rw [view, hl]
  exact seenW_eq h
theorem wk_sub {n : Nat} {q l : Wt} (h : WK n l) (hq : ∀ r ∈ q, r ∈ l) : WK n q := fun r hr => h r (hq r hr)
theorem pre_mem {q p l : Wt} (hq : ∀ r ∈ q, r ∈ p) (hp : p <+: l) : ∀ r ∈ q, r ∈ l := fun r hr => hp.subset (hq r hr)
theorem open_view {n : Nat} {s s2 : List Int} {w2 : Wt} {e lf l2 : Int} {d2 : Bool} {ks : List Bool} (h : (e, s2, w2, l2, d2) = phs n s [] lf false (openL (logged n s []))) (hlf : 0 ≤ lf) (hs : s.length = n) (hn : 256 * 43 ≤ n) : view n (crashP s2 w2 ks) = view n s ∧ (crashP s2 w2 ks).length = n := by
  have hb := logged_bw (n := n) hs (WK.nil n) hn
  have hk := open_wk hb hn
  generalize hL : logged n s [] = L at *
  have hlay : WK n (layL L) := bw_lay hb
  have hz : WK n zero0 := wk_zero hn
  -- the zero is laid
  have last : view n (syncP (phsS s [] [layL L]) zero0) = view n s := by
    have e0 : logged n (syncP (phsS s [] [layL L]) zero0) [] = [] := logged_none (by
      rw [seen_cut (by decide) (by omega) hs (fun y hy => by rw [List.mem_singleton.1 hy]; exact hlay) hz, List.append_nil]
      exact seen_last)
    rw [view, view, hL, e0]
    refine seenW_eq (fun b h0 h1 => ?_)
    rw [seen_cut (by omega) h1 hs (fun y hy => by rw [List.mem_singleton.1 hy]; exact hlay) hz]
    simp only [List.flatten_cons, List.flatten_nil, List.append_nil, layL, List.map_nil]
    exact seen_miss (zero_miss h0)
  have notyet : ∀ q, (∀ r ∈ q, r ∈ layL L) → view n (syncP (phsS s [] []) q) = view n s := fun q hq => by
    have hwq := wk_sub hlay hq
    have e0 : logged n (syncP (phsS s [] []) q) [] = L := by
      rw [← hL]
      refine logged_congr (fun x h0 h4 => ?_)
      rw [seen_cut h0 (by omega) hs (fun y hy => by cases hy) hwq, List.append_nil, List.flatten_nil]
      exact seen_miss (fun r hr => by have := lay_ge hb r (hq r hr); omega)
    rw [view, view, e0, hL]
    refine seenW_eq (fun b h0 h1 => ?_)
    rw [seen_cut (by omega) h1 hs (fun y hy => by cases hy) hwq, List.flatten_nil, seen_cover (fun r hr => ⟨r, hq r hr, rfl⟩), List.nil_append]
  have laid : view n (phsS s [] [layL L]) = view n s := by
    have hy : ∀ y ∈ [layL L], WK n y := fun y hy => by rw [List.mem_singleton.1 hy]; exact hlay
    have e0 : logged n (phsS s [] [layL L]) [] = L := by
      rw [← hL]
      refine logged_congr (fun x h0 h4 => ?_)
      rw [seen_phsS h0 (by omega) hs (by rw [hL]; exact hy)]
      simp only [List.flatten_cons, List.flatten_nil, List.append_nil]
      rw [hL]
      exact seen_miss (w1 := []) (fun r hr => by have := lay_ge hb r hr; omega)
    rw [view, view, e0, hL]
    refine seenW_eq (fun b h0 h1 => ?_)
    rw [seen_base (w2 := layL L) (seen_phsS (by omega) h1 hs hy)]
    simp only [List.flatten_cons, List.flatten_nil, List.append_nil]
    have := seen_dup (ss := s) (a := layL L) (b := []) (x := 42 + b)
    rwa [List.append_nil, List.append_nil] at this
  rcases phs_pow (n := n) (ss := s) hk hlf with ⟨l3, e3⟩ | ⟨pre, l, post, p, e4, hp, e3⟩
  · rw [e3] at h
    obtain ⟨h1, h2, h3, _, _⟩ := pair5 h
    rw [h2, h3]
    have e5 : crashP (phsS s [] (openL L)) [] ks = syncP (phsS s [] [layL L]) zero0 := by
      rw [crashP_kept]; rfl
    rw [e5]
    exact ⟨last, cut_len hs (fun y hy => by rw [List.mem_singleton.1 hy]; exact hlay) hz⟩
  · rw [e3] at h
    obtain ⟨h1, h2, h3, _, _⟩ := pair5 h
    rw [h2, h3, crashP_kept]
    match pre, e4 with
    | [], e4 =>
      have e6 : l = layL L := ((List.cons.inj e4).1).symm
      subst e6
      have hq := pre_mem (kept_mem (ks := ks)) hp
      exact ⟨notyet _ hq, cut_len hs (fun y hy => by cases hy) (wk_sub hlay hq)⟩
    | [a], e4 =>
      obtain ⟨ea, e5⟩ := List.cons.inj e4
      have ea : a = layL L := ea.symm
      have el : l = zero0 := ((List.cons.inj e5).1).symm
      subst ea; subst el
      have hy : ∀ y ∈ [layL L], WK n y := fun y hy => by rw [List.mem_singleton.1 hy]; exact hlay
      rcases kept_one (ks := ks) hp with e7 | e7
      · rw [e7]
        exact ⟨laid, cut_len hs hy (WK.nil n)⟩
      · rw [e7]
        exact ⟨last, cut_len hs hy hz⟩
    | a :: b :: pre, e4 =>
      have := congrArg List.length e4
      simp [openL] at this
theorem leN_at {v : Int} {r : List Int} (h0 : 0 ≤ v) (h1 : v < 4294967296) : leN (leB v 4 ++ r) 4 = v := by
  rw [← leN_take4 (leB v 4 ++ r) (Nat.le_refl 4), List.take_append_of_le_length (Nat.le_of_eq (leB_len4 v).symm), List.take_of_length_le (Nat.le_of_eq (leB_len4 v)), leN_leB]
  exact Int.emod_eq_of_lt h0 h1
theorem flat_drop : ∀ {l : Wt} {i : Nat} {b : Int} {x : List Int}, l[i]? = some (b, x) → ∃ r, (l.flatMap fun r => leB r.1 4).drop (4 * i) = leB b 4 ++ r
  | [], i, b, x, h => by simp at h
  | (b', x') :: l, 0, b, x, h => by
    simp only [List.getElem?_cons_zero, Option.some.injEq, Prod.mk.injEq] at h
    obtain ⟨rfl, rfl⟩ := h
    exact ⟨_, by rw [Nat.mul_zero, List.drop_zero, List.flatMap_cons]⟩
  | (b', x') :: l, i + 1, b, x, h => by
    rw [List.getElem?_cons_succ] at h
    obtain ⟨r, hr⟩ := flat_drop h
    refine ⟨r, ?_⟩
    rw [List.flatMap_cons, show 4 * (i + 1) = (leB b' 4).length + 4 * i by rw [leB_len4]; omega, List.drop_append, List.drop_of_length_le (by simp only [leB_len4]; omega), List.nil_append, show (leB b' 4).length + 4 * i - (leB b' 4).length = 4 * i by omega]
    exact hr
theorem head_count {l : Wt} (hl : l.length ≤ 40) : leN ((headL l).drop 4) 4 = l.length := by
  have e : (headL l).drop 4 = leB (l.length : Int) 4 ++ ((l.flatMap fun r => leB r.1 4) ++ List.replicate (256 - (headB l).length) 0) := by
    rw [headL, headB]
    simp only [List.append_assoc]
    rfl
  rw [e, leN_at (by omega) (by omega)]
theorem head_at {n : Nat} {l : Wt} {i : Nat} {b : Int} {x : List Int} (hb : BW n l) (hn : n ≤ 557056) (hg : l[i]? = some (b, x)) : leN ((headL l).drop (8 + 4 * i)) 4 = b := by
  obtain ⟨r, hr⟩ := flat_drop hg
  have h1 := hb _ (List.mem_of_getElem? hg)
  simp only at h1
  have hi := (List.getElem?_eq_some_iff.1 hg).1
  have e8 : ([79, 87, 65, 76] ++ leB (l.length : Int) 4).length = 8 := by rw [List.length_append, leB_len4]; rfl
  have e : (headL l).drop (8 + 4 * i) = leB b 4 ++ (r ++ List.replicate (256 - (headB l).length) 0) := by
    rw [headL, headB, ← List.drop_drop]
    rw [List.append_assoc, ← e8, List.drop_left, List.drop_append_of_le_length (by rw [flat_len]; omega), hr, List.append_assoc]
  rw [e, leN_at (by omega) (by omega)]
theorem logged_head {n : Nat} {s : List Int} {w l : Wt} (h0 : seenP s w 0 = headL l) (h : ∀ (i : Nat) (r : Int × List Int), l[i]? = some r → seenP s w (1 + (i : Int)) = r.2) (hb : BW n l) (hl : l.length ≤ 40) (hl1 : 1 ≤ l.length) (hn : n ≤ 557056) : logged n s w = l := by
  have hk : leN ((seenP s w 0).drop 4) 4 = l.length := by rw [h0]; exact head_count hl
  have hm : marked s w := ⟨by rw [h0]; rfl, by rw [hk]; omega, by rw [hk]; omega⟩
  have he : entries s w (leN ((seenP s w 0).drop 4) 4).toNat = l := by
    rw [hk, Int.toNat_natCast]
    apply List.ext_getElem?
    intro i
    by_cases hi : i < l.length
    · have hg : l[i]? = some (l[i].1, l[i].2) := List.getElem?_eq_getElem hi
      rw [entries, List.getElem?_map, List.getElem?_range hi, hg, Option.map_some, entry, h0, head_at hb hn hg, h i _ hg]
    · rw [List.getElem?_eq_none (by rw [entries_len]; omega), List.getElem?_eq_none (by omega)]
  rw [logged, if_pos hm, he, if_pos (fun r hr => ⟨(hb r hr).1, (hb r hr).2.1⟩)]
theorem log_seen {ss : List Int} {w : Wt} : ∀ {l : Wt} {k : Int} {i : Nat} {r : Int × List Int}, l[i]? = some r → seenP ss (w ++ logL k l) (k + i) = r.2
  | [], k, i, r, h => by simp at h
  | (b, x) :: l, k, 0, r, h => by
    simp only [List.getElem?_cons_zero, Option.some.injEq] at h
    subst h
    rw [logL, show w ++ (k, x) :: logL (k + 1) l = (w ++ [(k, x)]) ++ logL (k + 1) l by simp, seen_miss (fun r hr => by have := (mem_log hr).1; omega)]
    rw [show k + ((0 : Nat) : Int) = k by omega]
    exact seen_last
  | (b, x) :: l, k, i + 1, r, h => by
    rw [List.getElem?_cons_succ] at h
    have := log_seen (ss := ss) (w := w ++ [(k, x)]) (k := k + 1) h
    rw [logL, show w ++ (k, x) :: logL (k + 1) l = (w ++ [(k, x)]) ++ logL (k + 1) l by simp, show k + ((i + 1 : Nat) : Int) = k + 1 + i by omega]
    exact this
theorem done_seen {n : Nat} {ss : List Int} : ∀ {l wt : Wt}, (∀ r ∈ l, 0 ≤ r.1) → doneP (seenW n ss wt) l = seenW n ss (wt ++ layL l)
  | [], wt, _ => by rw [show layL [] = [] from rfl, List.append_nil]; rfl
  | (b, x) :: l, wt, h => by
    have e : doneP (seenW n ss wt) ((b, x) :: l) = doneP ((seenW n ss wt).set b.toNat x) l := rfl
    rw [e, seenW_set (h (b, x) List.mem_cons_self), done_seen (fun r hr => h r (List.mem_cons_of_mem _ hr)), List.append_assoc]
    rfl
theorem commit_view {n : Nat} {s s2 : List Int} {w2 : Wt} {e lf l2 : Int} {d2 : Bool} {ls : List Ch} (h : (e, s2, w2, l2, d2) = commitP n s [] lf false ls) (hlf : 0 ≤ lf) (hs : s.length = n) (hn : 256 * 43 ≤ n) (hn2 : n ≤ 557056) (hz : seenP s [] 0 = List.replicate 256 0) (hb : BOK n ls) (hl : ls.length ≤ 40) :
    ((e = 0 ∧ w2 = [] ∧ seenW n s2 [] = seenW n s (layL (dat ls))) ∨ (e = 11 ∧ d2 = true)) ∧ ∀ ks, (crashP s2 w2 ks).length = n ∧ (view n (crashP s2 w2 ks) = seenW n s (layL (dat ls)) ∨ (e = 11 ∧ view n (crashP s2 w2 ks) = seenW n s [])) := by
  have none0 : logged n s [] = [] := logged_none hz
  have view0 : view n s = seenW n s [] := by rw [view, none0]; rfl
  rw [commitP, if_pos ⟨hl, hb⟩] at h
  by_cases h0 : ls.length = 0
  · have e1 : ls = [] := List.length_eq_zero_iff.1 h0
    subst e1
    rw [if_pos h0] at h
    have e2 : layL (dat []) = [] := rfl
    rw [e2]
    rcases sync_pow hlf s [] with ⟨l3, g3, e3⟩ | e3
    · rw [e3] at h
      obtain ⟨h1, h2, h3, _, _⟩ := pair5 h
      have h2 : s2 = s := h2
      refine ⟨.inl ⟨h1, h3, by rw [h2]⟩, fun ks => ?_⟩
      rw [h2, h3, crashP_kept]
      exact ⟨hs, .inl view0⟩
    · rw [e3] at h
      obtain ⟨h1, h2, h3, _, h5⟩ := pair5 h
      refine ⟨.inr ⟨h1, h5⟩, fun ks => ?_⟩
      rw [h2, h3, crashP_kept]
      exact ⟨hs, .inl view0⟩
  rw [if_neg h0] at h
  have hbw := hb.dat
  have hl' : (dat ls).length ≤ 40 := by rw [dat_len]; exact hl
  have hl1 : 1 ≤ (dat ls).length := by rw [dat_len]; omega
  have hk := commit_wk hbw hl' hn
  generalize dat ls = l at *
  have klog : WK n (logL 1 l) := bw_log hbw hl' hn
  have khead : WK n [(0, headL l)] := wk_head hl' hn
  have klay : WK n (layL l) := bw_lay hbw
  have kz : WK n zero0 := wk_zero hn
  have mlog : ∀ b : Int, 0 ≤ b → ∀ r ∈ logL 1 l, r.1 ≠ 42 + b := fun b hb r hr => by have := mem_log hr; omega
  have mhead : ∀ b : Int, 0 ≤ b → ∀ r ∈ [((0 : Int), headL l)], r.1 ≠ 42 + b := fun b hb r hr => by rw [List.mem_singleton.1 hr]; simp only; omega
  have y1 : ∀ y ∈ [logL 1 l], WK n y := fun y hy => by rw [List.mem_singleton.1 hy]; exact klog
  have y2 : ∀ y ∈ [logL 1 l, [(0, headL l)]], WK n y := fun y hy => by
    simp only [List.mem_cons, List.not_mem_nil, or_false] at hy
    rcases hy with rfl | rfl
    · exact klog
    · exact khead
  have y3 : ∀ y ∈ [logL 1 l, [(0, headL l)], layL l], WK n y := fun y hy => by
    simp only [List.mem_cons, List.not_mem_nil, or_false] at hy
    rcases hy with rfl | rfl | rfl
    · exact klog
    · exact khead
    · exact klay
  -- nothing is marked yet
  have A : ∀ q, (∀ r ∈ q, r ∈ logL 1 l) → view n (syncP (phsS s [] []) q) = seenW n s [] := fun q hq => by
    have hwq := wk_sub klog hq
    refine view_of (l := []) (logged_none ?_) (fun b b0 b1 => ?_)
    · rw [seen_cut (by decide) (by omega) hs (fun y hy => by cases hy) hwq, List.append_nil, List.flatten_nil, seen_miss (fun r hr => by have := (mem_log (hq r hr)).1; omega), hz]
    · rw [seen_cut (by omega) b1 hs (fun y hy => by cases hy) hwq, show layL [] = [] from rfl, List.append_nil, List.flatten_nil, seen_miss (fun r hr => mlog b b0 r (hq r hr))]
  have B : view n (syncP (phsS s [] [logL 1 l]) []) = seenW n s [] := by
    refine view_of (l := []) (logged_none ?_) (fun b b0 b1 => ?_)
    · rw [seen_cut (by decide) (by omega) hs y1 (WK.nil n)]
      simp only [List.flatten_cons, List.flatten_nil, List.append_nil]
      rw [show logL 1 l = [] ++ logL 1 l from rfl, seen_miss (fun r hr => by have := (mem_log hr).1; omega), hz]
    · rw [seen_cut (by omega) b1 hs y1 (WK.nil n), show layL [] = [] from rfl]
      simp only [List.flatten_cons, List.flatten_nil, List.append_nil]
      rw [show logL 1 l = [] ++ logL 1 l from rfl, seen_miss (mlog b b0)]
  -- it is marked
  have J : ∀ q, (∀ r ∈ q, r ∈ layL l) → logged n (syncP (phsS s [] [logL 1 l, [(0, headL l)]]) q) [] = l := fun q hq => by
    have hwq := wk_sub klay hq
    have mq : ∀ x : Int, x ≤ 41 → ∀ r ∈ q, r.1 ≠ x := fun x hx r hr => by have := lay_ge hbw r (hq r hr); omega
    refine logged_head ?_ (fun i r hr => ?_) hbw hl' hl1 hn2
    · rw [seen_cut (by decide) (by omega) hs y2 hwq]
      simp only [List.flatten_cons, List.flatten_nil, List.append_nil]
      rw [seen_miss (mq 0 (by decide))]
      exact seen_last
    · have hi := (List.getElem?_eq_some_iff.1 hr).1
      rw [seen_cut (by omega) (by omega) hs y2 hwq]
      simp only [List.flatten_cons, List.flatten_nil, List.append_nil]
      rw [seen_miss (mq _ (by omega)), seen_miss (fun r' hr' => by rw [List.mem_singleton.1 hr']; simp only; omega)]
      exact log_seen (ss := s) (w := []) hr
  have C : ∀ q, (∀ r ∈ q, r ∈ layL l) → view n (syncP (phsS s [] [logL 1 l, [(0, headL l)]]) q) = seenW n s (layL l) := fun q hq => by
    refine view_of (J q hq) (fun b b0 b1 => ?_)
    rw [seen_cut (by omega) b1 hs y2 (wk_sub klay hq), seen_cover (fun r hr => ⟨r, hq r hr, rfl⟩)]
    simp only [List.flatten_cons, List.flatten_nil, List.append_nil]
    rw [seen_mid (mhead b b0)]
    have := seen_mid (ss := s) (w1 := []) (w2 := layL l) (mlog b b0)
    simpa using this
  have head1 : syncP (phsS s [] [logL 1 l]) [(0, headL l)] = syncP (phsS s [] [logL 1 l, [(0, headL l)]]) [] := rfl
  have lay1 : syncP (phsS s [] [logL 1 l, [(0, headL l)], layL l]) [] = syncP (phsS s [] [logL 1 l, [(0, headL l)]]) (layL l) := rfl
  have F : view n (syncP (phsS s [] [logL 1 l, [(0, headL l)], layL l]) zero0) = seenW n s (layL l) ∧ seenW n (syncP (phsS s [] [logL 1 l, [(0, headL l)], layL l]) zero0) [] = seenW n s (layL l) := by
    have e0 : logged n (syncP (phsS s [] [logL 1 l, [(0, headL l)], layL l]) zero0) [] = [] := logged_none (by
      rw [seen_cut (by decide) (by omega) hs y3 kz, List.append_nil]
      exact seen_last)
    have e1 : seenW n (syncP (phsS s [] [logL 1 l, [(0, headL l)], layL l]) zero0) [] = seenW n s (layL l) := by
      refine seenW_eq (fun b b0 b1 => ?_)
      rw [seen_cut (by omega) b1 hs y3 kz, List.append_nil, seen_miss (zero_miss b0)]
      simp only [List.flatten_cons, List.flatten_nil, List.append_nil, ← List.append_assoc]
      rw [seen_mid (mhead b b0)]
      have := seen_mid (ss := s) (w1 := []) (w2 := layL l) (mlog b b0)
      simpa using this
    exact ⟨by rw [view, e0]; exact e1, e1⟩
  rcases phs_pow (n := n) (ss := s) hk hlf with ⟨l3, e3⟩ | ⟨pre, m, post, p, e4, hp, e3⟩
  · rw [e3] at h
    obtain ⟨h1, h2, h3, _, _⟩ := pair5 h
    have h2 : s2 = syncP (phsS s [] [logL 1 l, [(0, headL l)], layL l]) zero0 := h2
    refine ⟨.inl ⟨h1, h3, by rw [h2]; exact F.2⟩, fun ks => ?_⟩
    rw [h2, h3, crashP_kept]
    exact ⟨cut_len hs y3 kz, .inl F.1⟩
  · rw [e3] at h
    obtain ⟨h1, h2, h3, _, h5⟩ := pair5 h
    refine ⟨.inr ⟨h1, h5⟩, fun ks => ?_⟩
    rw [h2, h3, crashP_kept]
    match pre, e4 with
    | [], e4 =>
      obtain rfl : m = logL 1 l := ((List.cons.inj e4).1).symm
      have hq := pre_mem (kept_mem (ks := ks)) hp
      exact ⟨cut_len hs (fun y hy => by cases hy) (wk_sub klog hq), .inr ⟨h1, A _ hq⟩⟩
    | [a], e4 =>
      obtain ⟨ea, e5⟩ := List.cons.inj e4
      obtain rfl : a = logL 1 l := ea.symm
      obtain rfl : m = [(0, headL l)] := ((List.cons.inj e5).1).symm
      rcases kept_one (ks := ks) hp with e7 | e7
      · rw [e7]
        exact ⟨cut_len hs y1 (WK.nil n), .inr ⟨h1, B⟩⟩
      · rw [e7]
        exact ⟨cut_len hs y1 khead, .inl (by rw [head1]; exact C [] (fun r hr => by cases hr))⟩
    | [a, b], e4 =>
      obtain ⟨ea, e5⟩ := List.cons.inj e4
      obtain ⟨eb, e6⟩ := List.cons.inj e5
      obtain rfl : a = logL 1 l := ea.symm
      obtain rfl : b = [(0, headL l)] := eb.symm
      obtain rfl : m = layL l := ((List.cons.inj e6).1).symm
      have hq := pre_mem (kept_mem (ks := ks)) hp
      exact ⟨cut_len hs y2 (wk_sub klay hq), .inl (C _ hq)⟩
    | [a, b, c], e4 =>
      obtain ⟨ea, e5⟩ := List.cons.inj e4
      obtain ⟨eb, e6⟩ := List.cons.inj e5
      obtain ⟨ec, e7⟩ := List.cons.inj e6
      obtain rfl : a = logL 1 l := ea.symm
      obtain rfl : b = [(0, headL l)] := eb.symm
      obtain rfl : c = layL l := ec.symm
      obtain rfl : m = zero0 := ((List.cons.inj e7).1).symm
      rcases kept_one (ks := ks) hp with e8 | e8
      · rw [e8]
        exact ⟨cut_len hs y3 (WK.nil n), .inl (by rw [lay1]; exact C _ (fun r hr => hr))⟩
      · rw [e8]
        exact ⟨cut_len hs y3 kz, .inl F.1⟩
    | a :: b :: c :: d :: pre, e4 =>
      have := congrArg List.length e4
      simp [commitL] at this
end Go.Proofs.Ytaaplakahkgclaa.SL.D
