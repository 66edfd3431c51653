/- The law of atomic commits: plain lemmas. -/
import Derived.Test.YtaaplakahkgclaaAPure
import Derived.Test.YtaaplakahkgclaaSLzk
namespace Go.Proofs.Ytaaplakahkgclaa.SL.D
set_option linter.unusedVariables false
set_option linter.unusedSimpArgs false
open Go Go.Proofs.Ytaaplakahkgclaa.SL Go.Proofs.Ytaaplakahkgclaa.SL.W

def AtV (n : Nat) (ss : List Int) (ls : List Ch) (e : Int) (s2 : List Int) (w2 : Wt) (d2 : Bool) : Prop :=
  ((e = 0 ∧ w2 = [] ∧ seenW n s2 [] = seenW n ss (layL (dat ls))) ∨ (e = 11 ∧ d2 = true)) ∧ ∀ ks, (crashP s2 w2 ks).length = n ∧ (view n (crashP s2 w2 ks) = seenW n ss (layL (dat ls)) ∨ (e = 11 ∧ view n (crashP s2 w2 ks) = seenW n ss []))
section
variable {n m : Nat} {ss s2 s3 s4 s5 s6 : List Int} {wt w2 w4 w6 w : Wt} {e e4 lf l2 l4 lf4 x : Int} {dn d2 d4 : Bool} {ls : List Ch} {xa xb xc : List Ro} {kb qb : List Bool}
theorem at_view (h : (e, s2, w2, l2, d2) = commitP n ss wt lf dn ls) (hw : wt = []) (hc : Calm l4 dn) (hl : lf = max x 0) (hs : ss.length = n) (hn : n = 12800) (hz : seenP ss [] 0 = List.replicate 256 0) (hm : m ≤ 40 ∧ MOK 8 ls) (hml : ls.length = m) : AtV n ss ls e s2 w2 d2 := by
  subst hw
  rw [hc.2] at h
  exact commit_view h (by omega) hs (by omega) (by omega) hz (mok_bok hm hn) (by omega)
theorem at_11 (h : AtV n ss ls e s2 w2 d2) (he : ¬ e = 0) : e = 11 ∧ d2 = true := by
  rcases h.1 with h | h
  · exact absurd h.1 he
  · exact h
theorem at_no (h : (e, s2, w2, l2, d2) = commitP n ss wt lf dn ls) (hm : ¬ (m ≤ 40 ∧ MOK 8 ls)) (hml : ls.length = m) (hc : C256 ls) (hn : n = 12800) : e = 1 ∧ s2 = ss ∧ w2 = wt ∧ l2 = lf ∧ d2 = dn := by
  rw [commitP, if_neg (fun g => hm ⟨by omega, fun r hr => ?_⟩)] at h
  · exact pair5 h
  · obtain ⟨h1, h2, h3⟩ := g.2 r hr
    exact ⟨h1, by omega, h3⟩
theorem at_seen (hz : rb xa = seenW n s2 w2) (h : (e, s2, w2, l2, d2) = commitP n ss wt lf dn ls) (hm : ¬ (m ≤ 40 ∧ MOK 8 ls)) (hml : ls.length = m) (hc : C256 ls) (hn : n = 12800) (hw : wt = []) (hs : rb xb = seenW n ss []) : rb xa = rb xb := by
  obtain ⟨_, e1, e2, _⟩ := at_no h hm hml hc hn
  rw [hz, hs, e1, e2, hw]
theorem at_reopen (hz : rb xa = seenW n s4 w4) (h4 : w4 = []) (hd : ∀ b : Int, 0 ≤ b → 256 * (42 + b) + 256 ≤ n → seenP s4 [] (42 + b) = seenP s3 (dat [] ++ layL (logged n s3 (dat []))) (42 + b)) (h3 : s3 = crashP s2 w []) (h : (e, s2, w2, l2, d2) = commitP n ss wt lf dn ls) (hm : ¬ (m ≤ 40 ∧ MOK 8 ls)) (hml : ls.length = m) (hc : C256 ls) (hn : n = 12800) (hz0 : seenP ss [] 0 = List.replicate 256 0) (hs : rb xb = seenW n ss []) : rb xa = rb xb := by
  obtain ⟨_, e1, e2, _⟩ := at_no h hm hml hc hn
  subst e1
  rw [hz, h4, hs]
  exact opens_seen hd h3 hz0
theorem at_keep (hz : rb xa = seenW n s4 w4) (h4 : w4 = []) (hk : rb xa = rb xb) : rb xb = seenW n s4 [] := by rw [← hk, hz, h4]
theorem at_new (hs : rb xb = seenW n ss []) (hd : rb xc = doneP (rb xb) (dat ls)) (hm : m ≤ 40 ∧ MOK 8 ls) : rb xc = seenW n ss (layL (dat ls)) := by
  rw [hd, hs, done_seen (fun r hr => by
    obtain ⟨q, hq, rfl⟩ := List.mem_map.1 hr
    exact (hm.2 q hq).1)]
  rfl
theorem at_done (hz : rb xa = seenW n s2 w2) (hv : AtV n ss ls e s2 w2 d2) (he : e = 0) (hs : rb xb = seenW n ss []) (hd : rb xc = doneP (rb xb) (dat ls)) (hm : m ≤ 40 ∧ MOK 8 ls) : rb xa = rb xc := by
  rcases hv.1 with h | h
  · rw [hz, h.2.1, h.2.2, at_new hs hd hm]
  · rw [he] at h; exact absurd h.1 (by decide)
theorem at_end (hz : rb xa = seenW n s6 w6) (h6 : w6 = []) (hd : ∀ b : Int, 0 ≤ b → 256 * (42 + b) + 256 ≤ n → seenP s6 [] (42 + b) = seenP s5 (dat [] ++ layL (logged n s5 (dat []))) (42 + b)) (h5 : s5 = crashP s4 w4 qb) (h4 : (e4, s4, w4, l4, d4) = phs n s3 (dat []) lf4 false (openL (logged n s3 (dat []))))
    (h3 : s3 = crashP s2 w2 kb) (hv : AtV n ss ls e s2 w2 d2) (hlf : 0 ≤ lf4) (hn : n = 12800) : rb xa = seenW n ss (layL (dat ls)) ∨ (e = 11 ∧ rb xa = seenW n ss []) := by
  have hl3 : s3.length = n := by rw [h3]; exact (hv.2 kb).1
  have hview : rb xa = view n s5 := by
    rw [hz, h6]
    exact seenW_eq hd
  have h45 : view n s5 = view n s3 := by
    rw [h5]
    exact (open_view (ks := qb) h4 hlf hl3 (by omega)).1
  rw [hview, h45, h3]
  exact (hv.2 kb).2
theorem at_have (h : rb xa = seenW n ss (layL (dat ls)) ∨ (e = 11 ∧ rb xa = seenW n ss [])) (he : e = 0) (hs : rb xb = seenW n ss []) (hd : rb xc = doneP (rb xb) (dat ls)) (hm : m ≤ 40 ∧ MOK 8 ls) : rb xa = rb xc := by
  rcases h with h | h
  · rw [h, at_new hs hd hm]
  · rw [he] at h; exact absurd h.1 (by decide)
theorem at_old (h : rb xa = seenW n ss (layL (dat ls)) ∨ (e = 11 ∧ rb xa = seenW n ss [])) (hne : ¬ rb xa = rb xc) (hs : rb xb = seenW n ss []) (hd : rb xc = doneP (rb xb) (dat ls)) (hm : m ≤ 40 ∧ MOK 8 ls) : rb xa = rb xb := by
  rcases h with h | h
  · exact absurd (h.trans (at_new hs hd hm).symm) hne
  · rw [h.2, hs]
theorem at_last {im : List Int} (h3 : rb xa = aheadP im) (hi : im = ss) (hl : ss.length = n) (hn : n = 12800) (hs : rb xb = seenW n ss []) : rb xa = rb xb := by
  rw [h3, hi, ahead_eq hl (by omega), hs]
theorem at_mok (h : m ≤ 40 ∧ MOK 8 ls) {k : Nat} (hk : k = 8) : MOK ((k : Nat) : Int) ls := by
  subst hk; exact h.2
theorem at_start (hz : rb xa = seenW n s6 w6) (h6 : w6 = []) : rb xa = seenW n s6 [] := by rw [hz, h6]
theorem at_small {l : List Tr} {i : Nat} {r : Tr} (h : SmallT l 12) (hi : i < 12) (hg : l[i]? = some r) : r.bl.length ≤ 60 ∧ r.kb.length ≤ 1000 ∧ r.qb.length ≤ 1000 := h i r hi hg
end
theorem le_and {a b : Int} (h : 0 ≤ a ∧ a < b) : 0 ≤ a := h.1
end Go.Proofs.Ytaaplakahkgclaa.SL.D
