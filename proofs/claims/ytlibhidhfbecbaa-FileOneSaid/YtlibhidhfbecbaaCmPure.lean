/- Files: what a Commit does. -/
import Derived.Test.YtlibhidhfbecbaaPutPure
namespace Go.Proofs.Ytlibhidhfbecbaa.SL.I
set_option linter.unusedVariables false
set_option linter.unusedSimpArgs false
open Go Go.Proofs.Ytlibhidhfbecbaa.SL Go.Proofs.Ytlibhidhfbecbaa.SL.W Go.Proofs.Ytlibhidhfbecbaa.SL.D

def dirCE (rs : List (List Int)) (e : En) : List (List Int) := rs.set (e.2.1 / 4).toNat (putE (rs.getD (e.2.1 / 4).toNat []) (64 * (e.2.1 % 4)).toNat e.1 e.2.2.1 (firstB e.2.2.2))
def dirC (C : Con) : List (List Int) := C.foldl dirCE (List.replicate 16 (List.replicate 256 0))
theorem dirS_C (es : List Fe) : dirS es = dirC (fcon es) := by
  unfold dirS dirC fcon
  rw [List.foldl_map]
  rfl
def SlC (sl : List Bool) (C : Con) : Prop := sl.length = 64 ∧ ∀ i : Nat, i < 64 → (sl.getD i false = true ↔ ∃ e ∈ C, e.2.1 = (i : Int))
theorem SlC.of {sl : List Bool} {F : List Fe} (h : SlOK sl F) (hl : sl.length = 64) : SlC sl (fcon F) := by
  refine ⟨hl, fun i hi => (h i hi).trans ⟨fun ⟨e, he, h1⟩ => ⟨_, List.mem_map.2 ⟨e, he, rfl⟩, h1⟩, fun ⟨e, he, h1⟩ => ?_⟩⟩
  obtain ⟨x, hx, rfl⟩ := List.mem_map.1 he
  exact ⟨x, hx, h1⟩
inductive CmR (n : Nat) (ss : List Int) (wt : Wt) (lf : Int) (dn : Bool) (C : Con) (ns : List Int) (dd : Bool) (l : List Ca) : Int → List Int → Wt → Int → Bool → Con → List Int → Bool → Prop
  | down (h : dd = true) : CmR n ss wt lf dn C ns dd l 11 ss wt lf dn C ns true
  | may {e : Int} (h : dd = false) (hm : e = mayF C l (frL ns).length) (he : ¬ e = 0) : CmR n ss wt lf dn C ns dd l e ss wt lf dn C ns false
  | put {sl0 : List Bool} {i : Nat} {E : Ed} {W w2 : Wt} {nm : ByteArray} {bs : List Int} {e l2 : Int} {d2 : Bool} (h : dd = false) (hm : 0 = mayF C l (frL ns).length) (hs : SlC sl0 C) (hp : PutN l (dropsC l ⟨C, ns, sl0, frL ns⟩ l.length) i E W) (hg : l[i]? = some (nm, false, bs)) (he : ¬ e = 0)
      (hw : (e, w2, l2, d2) = wrs n wt lf dn (W ++ putW (E.sp.take (need (bs.length : Int)).toNat) bs)) : CmR n ss wt lf dn C ns dd l e ss w2 l2 d2 C ns (decide (e = 11))
  | fail {sl0 : List Bool} {E : Ed} {W w1 w2 : Wt} {l1 l2 e : Int} {d1 d2 : Bool} {C2 : Con} {ls : List Ch} {s2 : List Int} (h : dd = false) (hm : 0 = mayF C l (frL ns).length) (hs : SlC sl0 C) (hp : PutN l (dropsC l ⟨C, ns, sl0, frL ns⟩ l.length) l.length E W) (hw : (0, w1, l1, d1) = wrs n wt lf dn W)
      (hC : C2.Perm E.C) (hls : dat ls = chgL ss w1 (dirC C2 ++ tabB E.ns) (16 + (E.ns.length + 127) / 128)) (hll : ls.length ≤ 32) (hc : (e, s2, w2, l2, d2) = commitP n ss w1 l1 d1 ls) (he : ¬ e = 0) : CmR n ss wt lf dn C ns dd l e s2 w2 l2 d2 C ns (decide (e = 11))
  | done {sl0 : List Bool} {E : Ed} {W w1 w2 : Wt} {l1 l2 e : Int} {d1 d2 : Bool} {C2 : Con} {ls : List Ch} {s2 : List Int} (h : dd = false) (hm : 0 = mayF C l (frL ns).length) (hs : SlC sl0 C) (hp : PutN l (dropsC l ⟨C, ns, sl0, frL ns⟩ l.length) l.length E W) (hw : (0, w1, l1, d1) = wrs n wt lf dn W)
      (hC : C2.Perm E.C) (hls : dat ls = chgL ss w1 (dirC C2 ++ tabB E.ns) (16 + (E.ns.length + 127) / 128)) (hll : ls.length ≤ 32) (hc : (e, s2, w2, l2, d2) = commitP n ss w1 l1 d1 ls) (he : e = 0) : CmR n ss wt lf dn C ns dd l e s2 w2 l2 d2 E.C E.ns false
structure Begun (C : Con) (ns : List Int) (k : Nat) (l : List Ca) (F1 : List Fe) (n4 : List Int) (sl4 : List Bool) : Prop where
  ed : EdOK k ⟨fcon F1, n4, sl4, frL ns⟩
  has : ∀ q, chas (fcon F1) q = true ↔ chas C q = true ∧ ¬ isGone l q
  may : MayOK C l (frL ns).length
  is : ∃ sl0, SlC sl0 C ∧ (⟨fcon F1, n4, sl4, frL ns⟩ : Ed) = dropsC l ⟨C, ns, sl0, frL ns⟩ l.length
  m0 : 0 = mayF C l (frL ns).length
theorem dropsC_has {l : List Ca} {E : Ed} (q : ByteArray) : chas (dropsC l E l.length).C q = true ↔ chas E.C q = true ∧ ¬ isGone l q := by
  rw [chas_iff, chas_iff]
  constructor
  · rintro ⟨x, hx, rfl⟩
    have := dropsC_mem.1 hx
    rw [List.take_length] at this
    exact ⟨⟨x, this.1, rfl⟩, this.2⟩
  · rintro ⟨⟨x, hx, rfl⟩, h2⟩
    exact ⟨x, dropsC_mem.2 ⟨hx, by rw [List.take_length]; exact h2⟩, rfl⟩
theorem begun {C : Con} {ns : List Int} {k : Nat} {l : List Ca} {F1 : List Fe} {n4 : List Int} {sl4 sl0 : List Bool} {i : Int} {e : Int} (hg : Good C ns k) (hs : SlC sl0 C) (hD : (⟨fcon F1, n4, sl4, frL ns⟩ : Ed) = dropsC l ⟨C, ns, sl0, frL ns⟩ i.toNat) (hi : i.toNat = l.length) (hm : e = mayF C l (frL ns).length) (he : e = 0) : Begun C ns k l F1 n4 sl4 := by
  subst he
  rw [hi] at hD
  have h1 : EdOK k (dropsC l ⟨C, ns, sl0, frL ns⟩ l.length) := dropsC_ok (begin_ok hg hs.1 hs.2) _
  refine ⟨by rw [hD]; exact h1, fun q => ?_, mayF_ok hg.nms hm.symm, ⟨sl0, hs, hD⟩, hm⟩
  have : fcon F1 = (dropsC l ⟨C, ns, sl0, frL ns⟩ l.length).C := congrArg Ed.C hD
  rw [this]
  exact dropsC_has q
section
variable {C : Con} {ns n4 n5 n3 sp5 x zs : List Int} {k : Nat} {ls : List Fc} {F1 F2 F3 : List Fe} {sl4 sl5 sl3 : List Bool} {j ix : Int} {W : Wt} {nm : ByteArray} {g : Bool} {A Ab : Option Addr} {c c2 cb SN : Nat}
theorem drop_next {E : Ed} (h0 : 0 ≤ j) (hD : (⟨fcon F1, n4, sl4, sp5⟩ : Ed) = dropsC (ca ls) E j.toNat) (hg : ls[j.toNat]? = some (nm, g, A, c, x)) (hg2 : g = true) (h1 : F3 = fdel F1 nm) (h2 : n3 = dropN F1 n4 nm) (h3 : sl3 = dropS F1 sl4 nm) : (⟨fcon F3, n3, sl3, sp5⟩ : Ed) = dropsC (ca ls) E (j + 1).toNat := by
  subst hg2
  rw [show (j + 1).toNat = j.toNat + 1 by omega, dropsC, ca_get hg]
  simp only
  rw [← hD]
  exact dropC_fe h1 h2 h3
theorem drop_skip {E : Ed} (h0 : 0 ≤ j) (hD : (⟨fcon F1, n4, sl4, sp5⟩ : Ed) = dropsC (ca ls) E j.toNat) (hg : ls[j.toNat]? = some (nm, g, A, c, x)) (hg2 : g = false) : (⟨fcon F1, n4, sl4, sp5⟩ : Ed) = dropsC (ca ls) E (j + 1).toNat := by
  subst hg2
  rw [show (j + 1).toNat = j.toNat + 1 by omega, dropsC, ca_get hg]
  exact hD
theorem put_skip {E : Ed} {E0 : Ed} (h0 : 0 ≤ j) (hP : PutN (ca ls) E0 j.toNat E W) (hg : ls[j.toNat]? = some (nm, g, A, c, x)) (hg2 : g = true) : PutN (ca ls) E0 (j + 1).toNat E W := by
  subst hg2
  rw [show (j + 1).toNat = j.toNat + 1 by omega]
  unfold PutN
  rw [ca_get hg]
  exact hP
theorem dropS_C (F : List Fe) (ns sp : List Int) (sl : List Bool) (nm : ByteArray) : (dropC ⟨fcon F, ns, sl, sp⟩ nm).sl = dropS F sl nm := by
  unfold dropC dropS
  simp only
  rw [csl_fe, chas_fe]
theorem fhas_del (F : List Fe) (nm : ByteArray) : fhas (fdel F nm) nm = false := by
  rw [← chas_fe, fcon_del]
  exact cdel_has _ _
theorem put_next {E0 : Ed} (h0 : 0 ≤ j) (hP : PutN (ca ls) E0 j.toNat ⟨fcon F2, n5, sl5, sp5⟩ W) (hg : ls[j.toNat]? = some (nm, g, A, c, x)) (hg2 : g = false) (hz : zs = sp5.take (need (x.length : Int)).toNat) (hF : F3 = fput (fdel F2 nm) c2 ⟨nm, ix, (x.length : Int), Ab, cb, zs, 0⟩) (hn : n3 = chainS (dropN F2 n5 nm) zs zs.length) (hs : sl3 = (dropS F2 sl5 nm).set ix.toNat true)
    (hix : 0 ≤ ix ∧ ix < 64 ∧ (dropS F2 sl5 nm).getD ix.toNat false = false) : PutN (ca ls) E0 (j + 1).toNat ⟨fcon F3, n3, sl3, sp5.drop (need (x.length : Int)).toNat⟩ (W ++ putW zs x) := by
  subst hg2
  rw [show (j + 1).toNat = j.toNat + 1 by omega]
  unfold PutN
  rw [ca_get hg]
  refine ⟨_, W, ix, hP, ⟨hix.1, hix.2.1, by rw [dropS_C]; exact hix.2.2⟩, ?_, by rw [hz]⟩
  unfold putC
  rw [dropS_C, ← hz, ← hs]
  simp only
  rw [cbl_fe, ← fcon_del, hF, fcon_put (e := ⟨nm, ix, (x.length : Int), Ab, cb, zs, 0⟩) (fhas_del F2 nm), hn]
  rfl
theorem cm_pre (hP : PutN (ca ls) ⟨fcon F1, n4, sl4, frL ns⟩ j.toNat ⟨fcon F2, n5, sl5, sp5⟩ W) (hB : Begun C ns k (ca ls) F1 n4 sl4) (hg : ls[j.toNat]? = some (nm, g, A, c, x)) (hg2 : g = false) (hs : sp5.length = SN) : need (x.length : Int) ≤ (SN : Int) ∧ ∃ q : Nat, q < 64 ∧ (dropS F2 sl5 nm).getD q false = false := by
  subst hg2 hs
  have := putN_pre hB.ed hB.has hB.may rfl hP (ca_get hg)
  rw [dropS_C] at this
  exact this
theorem cm_needs (hB : Begun C ns k (ca ls) F1 n4 sl4) (i : Nat) (hi : i ≤ ls.length) : needs (ca ls) i ≤ ((frL ns).length : Int) := by
  have := needs_mono (ca ls) (i := i) (j := (ca ls).length) (by rw [ca_len]; exact hi)
  have := hB.may.nt
  omega
theorem needs_put (h0 : 0 ≤ j) (hg : ls[j.toNat]? = some (nm, g, A, c, x)) (hg2 : g = false) : needs (ca ls) (j + 1).toNat = needs (ca ls) j.toNat + need (x.length : Int) := by
  subst hg2
  rw [show (j + 1).toNat = j.toNat + 1 by omega, needs, ca_get hg]
theorem needs_skip (h0 : 0 ≤ j) (hg : ls[j.toNat]? = some (nm, g, A, c, x)) (hg2 : g = true) : needs (ca ls) (j + 1).toNat = needs (ca ls) j.toNat := by
  subst hg2
  rw [show (j + 1).toNat = j.toNat + 1 by omega, needs, ca_get hg]
theorem cm_ed (hP : PutN (ca ls) ⟨fcon F1, n4, sl4, frL ns⟩ j.toNat ⟨fcon F2, n5, sl5, sp5⟩ W) (hB : Begun C ns k (ca ls) F1 n4 sl4) (hj : j.toNat ≤ ls.length) : EdOK k ⟨fcon F2, n5, sl5, sp5⟩ :=
  (putN_ok hB.ed hB.may.nm hB.may.nt (by rw [ca_len]; exact hj) hP).ed
theorem good_febl {F : List Fe} (h : Good (fcon F) ns k) : FeBl F (k : Int) := fun e he => by
  have h1 : (e.nm, e.sl, e.sz, e.bl) ∈ fcon F := List.mem_map.2 ⟨e, he, rfl⟩
  exact ⟨fun i hi => h.bd i (mem_cbls.2 ⟨_, h1, hi⟩), h.need _ h1⟩
theorem good_fed {F : List Fe} (h : Good (fcon F) ns k) : FeD F := fun e he => by
  have h1 : (e.nm, e.sl, e.sz, e.bl) ∈ fcon F := List.mem_map.2 ⟨e, he, rfl⟩
  have h2 := good_febl h e he
  have hk := h.k2
  have h3 : e.bl.length ≤ 2048 := by
    have hn : e.bl.Nodup := cbls_nd h.bls h1
    have := nodup_le (es := e.bl.map Int.toNat) (F := List.range k) ?_ ?_
    · rw [List.length_map, List.length_range] at this; omega
    · unfold List.Nodup
      rw [List.pairwise_map]
      refine List.Pairwise.imp_of_mem (fun {a b} ha hb hab hc => ?_) hn
      have h7 := h2.1 a ha
      have h8 := h2.1 b hb
      exact hab (by omega)
    · intro x hx
      obtain ⟨b, hb, rfl⟩ := List.mem_map.1 hx
      have h7 := h2.1 b hb
      exact List.mem_range.2 (by omega)
  have h4 := h2.2
  refine ⟨(h.nm _ h1).2, by unfold need at h4; omega, fun i hi => ?_⟩
  have := h2.1 i hi
  omega
theorem febl_n {F : List Fe} {a b : Int} (h : FeBl F a) (e : b = a) : FeBl F b := by rw [e]; exact h
theorem all_n {sp : List Int} {a b : Int} (h : ∀ i ∈ sp, 0 ≤ i ∧ i < a) (e : b = a) : ∀ i ∈ sp, 0 ≤ i ∧ i < b := by rw [e]; exact h
theorem all_in {sp : List Int} {a : Int} (h : ∀ i ∈ sp, 0 ≤ i ∧ i < a) (ha : a ≤ 2048) : In .i64 sp := fun x hx => by
  have := h x hx
  simp only [fits]
  omega
end
theorem wrs_join {n : Nat} {wt w1 w2 W V : Wt} {e lf l1 l2 : Int} {dn d1 d2 : Bool} (h : (0, w1, l1, d1) = wrs n wt lf dn W) (h2 : (e, w2, l2, d2) = wrs n w1 l1 d1 V) : (e, w2, l2, d2) = wrs n wt lf dn (W ++ V) := by
  rw [wrs_app, ← h, if_pos rfl]
  exact h2
theorem fr_bd {ns : List Int} {k : Nat} (h : ns.length = k) : ∀ i ∈ frL ns, 0 ≤ i ∧ i < (k : Int) := fun i hi => by
  obtain ⟨q, hq, rfl⟩ := List.mem_map.1 hi
  have := List.mem_range.1 (List.mem_filter.1 hq).1
  omega
section
variable {n m : Nat} {ss s2 : List Int} {wt w1 w2 W : Wt} {lf l1 l2 e e2 : Int} {dn d1 d2 dd q2 : Bool} {C : Con} {ns n4 n5 sp5 x zs : List Int} {k : Nat} {ls : List Fc} {ch : List Ch} {F1 F2 F3 es : List Fe} {sl4 sl5 : List Bool} {j ix : Int} {nm : ByteArray} {g : Bool} {A Ab : Option Addr} {c c2 c3 cb : Nat} {G G3 : List Ro}
theorem cm_down (h : dd = true) : CmR n ss wt lf dn C ns dd (ca ls) 11 ss wt lf dn C ns dd := by
  have := CmR.down (n := n) (ss := ss) (wt := wt) (lf := lf) (dn := dn) (C := C) (ns := ns) (l := ca ls) h
  rwa [← h] at this
theorem cm_may (h : dd = false) (hm : e = mayF C (ca ls) (frL ns).length) (he : ¬ e = 0) : CmR n ss wt lf dn C ns dd (ca ls) e ss wt lf dn C ns dd := by
  have := CmR.may (n := n) (ss := ss) (wt := wt) (lf := lf) (dn := dn) (C := C) (ns := ns) (l := ca ls) h hm he
  rwa [← h] at this
theorem cm_put (h : dd = false) (hB : Begun C ns k (ca ls) F1 n4 sl4) (hP : PutN (ca ls) ⟨fcon F1, n4, sl4, frL ns⟩ j.toNat ⟨fcon F2, n5, sl5, sp5⟩ W) (hg : ls[j.toNat]? = some (nm, g, A, c, x)) (hg2 : g = false) (hW : (0, w1, l1, d1) = wrs n wt lf dn W) (hz : (e, w2, l2, d2) = wrs n w1 l1 d1 (putW (sp5.take (need (x.length : Int)).toNat) x)) (he : ¬ e = 0) (hd : q2 = (dd || decide (e = 11))) :
    CmR n ss wt lf dn C ns dd (ca ls) e ss w2 l2 d2 C ns q2 := by
  subst hg2
  obtain ⟨sl0, hs, hD⟩ := hB.is
  rw [hD] at hP
  rw [hd, h, Bool.false_or]
  exact .put rfl hB.m0 hs hP (ca_get hg) he (wrs_join hW hz)
theorem fcon_perm {a b : List Fe} (h : a.Perm b) : (fcon a).Perm (fcon b) := h.map _
theorem cm_end (h : dd = false) (hB : Begun C ns k (ca ls) F1 n4 sl4) (hP : PutN (ca ls) ⟨fcon F1, n4, sl4, frL ns⟩ j.toNat ⟨fcon F2, n5, sl5, sp5⟩ W) (hj : j.toNat = ls.length) (hW : (0, w1, l1, d1) = wrs n wt lf dn W) (hes : es.Perm F2) (hls : dat ch = chgL ss w1 (dirS es ++ tabB n5) (16 + (n5.length + 127) / 128)) (hll : ch.length ≤ 32) (hz : (e, s2, w2, l2, d2) = commitP n ss w1 l1 d1 ch) :
    (¬ e = 0 → q2 = (dd || decide (e = 11)) → CmR n ss wt lf dn C ns dd (ca ls) e s2 w2 l2 d2 C ns q2) ∧ (e = 0 → q2 = (dd || decide (e = 11)) → CmR n ss wt lf dn C ns dd (ca ls) e s2 w2 l2 d2 (fcon F2) n5 q2) := by
  obtain ⟨sl0, hs, hD⟩ := hB.is
  rw [hD, hj, ← ca_len] at hP
  rw [dirS_C] at hls
  constructor
  · intro he hd
    rw [hd, h, Bool.false_or]
    exact .fail rfl hB.m0 hs hP hW (fcon_perm hes) hls hll hz he
  · intro he hd
    have := CmR.done rfl hB.m0 hs hP hW (fcon_perm hes) hls hll hz he
    rw [hd, h, Bool.false_or, show decide (e = 11) = false from decide_eq_false (by omega)]
    exact this
theorem put_fe (h : FeOK F2) (hF : F3 = fput (fdel F2 nm) c2 ⟨nm, ix, (x.length : Int), Ab, cb, zs, 0⟩) (hix : 0 ≤ ix ∧ ix < 64) (hz : In .i64 zs) (hc : zs.length ≤ cb) (hA : 0 < zs.length → Option.isSome Ab = true) (hl : x.length ≤ 1000000000) (hzl : zs.length ≤ 1000000) : FeOK F3 := by
  rw [hF]
  exact (h.del _).put _ ⟨hix, ⟨by simp only; omega, by simp only; omega⟩, hz, hc, hA, hzl⟩
theorem put_fm (h : FMOK F2 c2) (hF : F3 = fput (fdel F2 nm) c2 ⟨nm, ix, (x.length : Int), Ab, cb, zs, 0⟩) (hc : c3 = fclock (fdel F2 nm) c2 nm) : FMOK F3 c3 := by
  rw [hF, hc]
  exact (h.del nm).put _
theorem put_fi (h : FeIn F2 G) (hF : F3 = fput (fdel F2 nm) c2 ⟨nm, ix, (x.length : Int), Ab, cb, zs, 0⟩) (hG : G3 = (Ab, cb, zs) :: G) : FeIn F3 G3 := by
  rw [hF, hG]
  exact (h.del nm).put _
theorem put_fb {K : Int} (h : FeBl F2 K) (hF : F3 = fput (fdel F2 nm) c2 ⟨nm, ix, (x.length : Int), Ab, cb, zs, 0⟩) (hz : zs = sp5.take (need (x.length : Int)).toNat) (hs : ∀ i ∈ sp5, 0 ≤ i ∧ i < K) (hn : need (x.length : Int) ≤ (sp5.length : Int)) : FeBl F3 K := by
  rw [hF]
  refine (h.del nm).put _ (fun i hi => hs i (by simp only at hi; rw [hz] at hi; exact List.mem_of_mem_take hi)) ?_
  simp only
  have := need_bd (x.length : Int) (by omega)
  rw [hz, List.length_take]
  omega
theorem small_of_need (h : need (x.length : Int) ≤ (k : Int)) (hk : k ≤ 2048) : x.length ≤ 1000000000 := by
  unfold need at h
  omega
end
theorem lnk_val {ns : List Int} {k : Int} : ∀ {bl : List Int}, Lnk ns bl → (∀ b ∈ bl, 0 ≤ b ∧ b < k) → k ≤ 2048 → ∀ b ∈ bl, 0 ≤ ns.getD b.toNat 0 ∧ ns.getD b.toNat 0 < 65536
  | [], _, _, _, b, hb => by cases hb
  | a :: bl, h, hb, hk, b, hm => by
    rcases List.mem_cons.1 hm with rfl | hm
    · rw [h.1]
      cases bl with
      | nil => exact ⟨by decide, by decide⟩
      | cons c bl =>
        have := hb c (List.mem_cons_of_mem _ List.mem_cons_self)
        simp only [firstB]
        omega
    · exact lnk_val h.2 (fun x hx => hb x (List.mem_cons_of_mem _ hx)) hk b hm
theorem good_bnd {C : Con} {ns : List Int} {k : Nat} (h : Good C ns k) : Bnd 0 65536 ns := by
  refine ⟨by decide, by decide, fun x hx => ?_⟩
  obtain ⟨i, hi, rfl⟩ := List.mem_iff_getElem.1 hx
  have hl := h.len
  have e : ns.getD i 0 = ns[i] := by rw [List.getD_eq_getElem?_getD, List.getElem?_eq_getElem hi]; rfl
  by_cases h0 : ns.getD i 0 = 0
  · omega
  · have h1 : (i : Int) ∈ cbls C := Decidable.byContradiction fun g => h0 ((h.free i (by omega)).2 g)
    obtain ⟨x, hx, hb⟩ := mem_cbls.1 h1
    have := lnk_val (h.lnk x hx) (fun b hb => h.bd b (mem_cbls.2 ⟨x, hx, hb⟩)) (by have := h.k2; omega) _ hb
    rw [← e]
    exact this
theorem good_k {C : Con} {ns : List Int} {k k2 : Nat} (h : Good C ns k) (e : k2 = k) : Good C ns k2 := by rw [e]; exact h
def zeroW (bl : List Int) : Wt := bl.map fun b => (42 + (32 + b), List.replicate 256 0)
inductive ErR (n : Nat) (ss : List Int) (wt : Wt) (lf : Int) (dn : Bool) (C : Con) (ns : List Int) (dd : Bool) (nm : ByteArray) : Int → List Int → Wt → Int → Bool → Con → List Int → Bool → Prop
  | down (h : dd = true) : ErR n ss wt lf dn C ns dd nm 11 ss wt lf dn C ns true
  | no (h : dd = false) (hc : chas C nm = false) : ErR n ss wt lf dn C ns dd nm 4 ss wt lf dn C ns false
  | wr {e l2 : Int} {w2 : Wt} {d2 : Bool} (h : dd = false) (hc : chas C nm = true) (hw : (e, w2, l2, d2) = wrs n wt lf dn (zeroW (cbl C nm))) (he : ¬ e = 0) : ErR n ss wt lf dn C ns dd nm e ss w2 l2 d2 C ns (decide (e = 11))
  | sync {e l1 l2 : Int} {w1 w2 : Wt} {d1 d2 : Bool} {s2 : List Int} (h : dd = false) (hc : chas C nm = true) (hw : (0, w1, l1, d1) = wrs n wt lf dn (zeroW (cbl C nm))) (hs : (e, s2, w2, l2, d2) = syncR ss w1 l1 d1) (he : ¬ e = 0) : ErR n ss wt lf dn C ns dd nm e s2 w2 l2 d2 C ns (decide (e = 11))
  | go {e e1 l1 l2 l3 : Int} {w1 w2 w3 : Wt} {d1 d2 d3 q2 : Bool} {s1 s2 : List Int} {C2 : Con} {ns2 : List Int} (h : dd = false) (hc : chas C nm = true) (hw : (0, w1, l1, d1) = wrs n wt lf dn (zeroW (cbl C nm))) (hs : (e1, s1, w2, l2, d2) = syncR ss w1 l1 d1) (he : e1 = 0) (hm : CmR n s1 w2 l2 d2 C ns dd [(nm, true, [])] e s2 w3 l3 d3 C2 ns2 q2) : ErR n ss wt lf dn C ns dd nm e s2 w3 l3 d3 C2 ns2 q2
section
variable {n : Nat} {ss s2 s1 : List Int} {wt w1 w2 w3 : Wt} {lf l1 l2 l3 e e1 : Int} {dn d1 d2 d3 dd q2 : Bool} {F : List Fe} {C2 : Con} {ns ns2 bl : List Int} {nm : ByteArray} {slt sz i : Int} {A : Option Addr} {c : Nat}
theorem FAt.cbl (h : FAt F nm slt sz A c bl) : I.cbl (fcon F) nm = bl := by
  rw [cbl_fe]; exact h.2.2.2.2
end
end Go.Proofs.Ytlibhidhfbecbaa.SL.I
