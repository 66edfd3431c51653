/- Files: changes on their way. -/
import Derived.Test.YtlibhidhfbecbaaTblPure
namespace Go.Proofs.Ytlibhidhfbecbaa.SL.I
set_option linter.unusedVariables false
set_option linter.unusedSimpArgs false
open Go Go.Proofs.Ytlibhidhfbecbaa.SL Go.Proofs.Ytlibhidhfbecbaa.SL.W Go.Proofs.Ytlibhidhfbecbaa.SL.D

structure Ed where
  C : Con
  ns : List Int
  sl : List Bool
  sp : List Int
def cget (C : Con) (k : ByteArray) : Option En := C.find? fun e => decide (k = e.1)
def cdel (C : Con) (k : ByteArray) : Con := C.filter fun e => decide (e.1 ≠ k)
def cbl (C : Con) (k : ByteArray) : List Int := ((cget C k).map (·.2.2.2)).getD []
def csl (C : Con) (k : ByteArray) : Int := ((cget C k).map (·.2.1)).getD 0
theorem fcon_del (F : List Fe) (k : ByteArray) : fcon (fdel F k) = cdel (fcon F) k := by
  unfold fcon fdel cdel
  rw [List.filter_map]
  rfl
theorem cget_fe (F : List Fe) (k : ByteArray) : cget (fcon F) k = (fget F k).map fun e => (e.nm, e.sl, e.sz, e.bl) := by
  unfold cget fcon fget
  induction F with
  | nil => rfl
  | cons e F ih =>
    by_cases h : k = e.nm
    · rw [List.map_cons, List.find?_cons_of_pos (by simpa using h), List.find?_cons_of_pos (by simpa using h)]; rfl
    · rw [List.map_cons, List.find?_cons_of_neg (by simpa using h), List.find?_cons_of_neg (by simpa using h)]; exact ih
theorem cbl_fe (F : List Fe) (k : ByteArray) : cbl (fcon F) k = (fat F k).bl := by
  unfold cbl fat
  rw [cget_fe]
  cases fget F k <;> rfl
theorem csl_fe (F : List Fe) (k : ByteArray) : csl (fcon F) k = (fat F k).sl := by
  unfold csl fat
  rw [cget_fe]
  cases fget F k <;> rfl
def dropC (E : Ed) (k : ByteArray) : Ed := ⟨cdel E.C k, zeroL E.ns (cbl E.C k), if chas E.C k = true then E.sl.set (csl E.C k).toNat false else E.sl, E.sp⟩
theorem dropC_fe {F F3 : List Fe} {ns n3 sp : List Int} {sl sl3 : List Bool} {nm : ByteArray} (h1 : F3 = fdel F nm) (h2 : n3 = dropN F ns nm) (h3 : sl3 = dropS F sl nm) : (⟨fcon F3, n3, sl3, sp⟩ : Ed) = dropC ⟨fcon F, ns, sl, sp⟩ nm := by
  subst h1 h2 h3
  unfold dropC dropN dropS
  simp only
  rw [fcon_del, cbl_fe, csl_fe, chas_fe]
def dropsC (l : List Ca) (E : Ed) : Nat → Ed
  | 0 => E
  | i + 1 => match l[i]? with
    | some (nm, true, _) => dropC (dropsC l E i) nm
    | _ => dropsC l E i
def putC (E : Ed) (nm : ByteArray) (bs : List Int) (ix : Int) : Ed :=
  ⟨cdel E.C nm ++ [(nm, ix, (bs.length : Int), E.sp.take (need (bs.length : Int)).toNat)], chainS (zeroL E.ns (cbl E.C nm)) (E.sp.take (need (bs.length : Int)).toNat) (E.sp.take (need (bs.length : Int)).toNat).length, (dropC E nm).sl.set ix.toNat true, E.sp.drop (need (bs.length : Int)).toNat⟩
def freeIx (sl : List Bool) (ix : Int) : Prop := 0 ≤ ix ∧ ix < 64 ∧ sl.getD ix.toNat false = false
def PutN (l : List Ca) (E0 : Ed) : Nat → Ed → Wt → Prop
  | 0, E, W => E = E0 ∧ W = []
  | i + 1, E, W => match l[i]? with
    | some (nm, false, bs) => ∃ E1 W1 ix, PutN l E0 i E1 W1 ∧ freeIx (dropC E1 nm).sl ix ∧ E = putC E1 nm bs ix ∧ W = W1 ++ putW (E1.sp.take (need (bs.length : Int)).toNat) bs
    | _ => PutN l E0 i E W
structure EdOK (k : Nat) (E : Ed) : Prop where
  good : Good E.C E.ns k
  sll : E.sl.length = 64
  sl : ∀ i : Nat, i < 64 → (E.sl.getD i false = true ↔ ∃ e ∈ E.C, e.2.1 = (i : Int))
  spn : E.sp.Nodup
  spb : ∀ b ∈ E.sp, 0 ≤ b ∧ b < (k : Int) ∧ E.ns.getD b.toNat 0 = 0
theorem cget_mem {C : Con} {k : ByteArray} {e : En} (h : cget C k = some e) : e ∈ C ∧ e.1 = k := by
  unfold cget at h
  have h1 := List.find?_some h
  exact ⟨List.mem_of_find?_eq_some h, by simpa using (of_decide_eq_true h1).symm⟩
theorem cget_some {C : Con} (hn : (C.map (·.1)).Nodup) {e : En} (he : e ∈ C) : cget C e.1 = some e := by
  cases h : cget C e.1 with
  | none =>
    unfold cget at h
    exact absurd (decide_eq_true rfl) (List.find?_eq_none.1 h e he)
  | some x =>
    have := cget_mem h
    rw [name_inj hn this.1 he this.2]
theorem cget_none {C : Con} {k : ByteArray} (h : chas C k = false) : cget C k = none := by
  unfold cget
  rw [List.find?_eq_none]
  intro x hx
  simp only [decide_eq_true_eq]
  exact fun e => chas_not.1 h x hx e.symm
theorem cdel_none {C : Con} {k : ByteArray} (h : chas C k = false) : cdel C k = C := by
  unfold cdel
  rw [List.filter_eq_self]
  intro x hx
  exact decide_eq_true (chas_not.1 h x hx)
theorem mem_cdel {C : Con} {k : ByteArray} {e : En} : e ∈ cdel C k ↔ e ∈ C ∧ e.1 ≠ k := by
  unfold cdel
  rw [List.mem_filter]
  simp
theorem cdel_has (C : Con) (k : ByteArray) : chas (cdel C k) k = false := chas_not.2 fun e he => (mem_cdel.1 he).2
theorem cbls_sub (C : Con) (p : En → Bool) : List.Sublist (cbls (C.filter p)) (cbls C) := by
  unfold cbls
  induction C with
  | nil => exact List.Sublist.refl _
  | cons a l ih =>
    rw [List.filter_cons]
    split
    · rw [List.flatMap_cons, List.flatMap_cons]; exact List.Sublist.append (List.Sublist.refl _) ih
    · rw [List.flatMap_cons]; exact ih.trans (List.sublist_append_right _ _)
theorem cbls_disj {C : Con} (h : (cbls C).Nodup) (hn : (C.map (·.1)).Nodup) {x y : En} (hx : x ∈ C) (hy : y ∈ C) (hne : x.1 ≠ y.1) {b : Int} (h1 : b ∈ x.2.2.2) : b ∉ y.2.2.2 := by
  induction C with
  | nil => cases hx
  | cons f C ih =>
    have e : cbls (f :: C) = f.2.2.2 ++ cbls C := by simp [cbls]
    rw [e, List.nodup_append] at h
    rw [List.map_cons, List.nodup_cons] at hn
    rcases List.mem_cons.1 hx with rfl | hx2 <;> rcases List.mem_cons.1 hy with rfl | hy2
    · exact absurd rfl hne
    · exact fun h2 => h.2.2 b h1 b (mem_cbls.2 ⟨y, hy2, h2⟩) rfl
    · exact fun h2 => h.2.2 b h2 b (mem_cbls.2 ⟨x, hx2, h1⟩) rfl
    · exact ih h.2.1 hn.2 hx2 hy2
theorem cbls_nd {C : Con} (h : (cbls C).Nodup) {x : En} (hx : x ∈ C) : x.2.2.2.Nodup := by
  unfold cbls List.Nodup at h
  rw [List.pairwise_flatMap] at h
  exact h.1 x hx
theorem zeroL_get {i : Nat} : ∀ {bl : List Int} {ns : List Int}, (∀ b ∈ bl, 0 ≤ b ∧ b < (ns.length : Int)) → (zeroL ns bl).getD i 0 = if (i : Int) ∈ bl then 0 else ns.getD i 0
  | [], ns, _ => by simp [zeroL]
  | b :: bl, ns, h => by
    have h0 := h b List.mem_cons_self
    have ih := zeroL_get (i := i) (bl := bl) (ns := ns.set b.toNat 0) (fun x hx => by rw [List.length_set]; exact h x (List.mem_cons_of_mem _ hx))
    have e : zeroL ns (b :: bl) = zeroL (ns.set b.toNat 0) bl := rfl
    rw [e, ih, getD_set (by omega)]
    by_cases hi : i = b.toNat
    · have : (i : Int) = b := by omega
      rw [if_pos hi]; simp [this]
    · have : ¬ (i : Int) = b := by omega
      rw [if_neg hi]; simp [this]
theorem EdOK.drop {k : Nat} {E : Ed} (h : EdOK k E) (nm : ByteArray) : EdOK k (dropC E nm) := by
  cases hc : chas E.C nm with
  | false =>
    have : dropC E nm = E := by
      unfold dropC
      rw [cdel_none hc, hc, cbl, cget_none hc]
      simp [zeroL]
    rw [this]
    exact h
  | true =>
    obtain ⟨e, he, hen⟩ := chas_iff.1 hc
    have hg := h.good
    have hget : cget E.C nm = some e := by rw [← hen]; exact cget_some hg.nms he
    have hbl : cbl E.C nm = e.2.2.2 := by rw [cbl, hget]; rfl
    have hsl : csl E.C nm = e.2.1 := by rw [csl, hget]; rfl
    have hbd : ∀ b ∈ e.2.2.2, 0 ≤ b ∧ b < (k : Int) := fun b hb => hg.bd b (mem_cbls.2 ⟨e, he, hb⟩)
    have hbd2 : ∀ b ∈ e.2.2.2, 0 ≤ b ∧ b < (E.ns.length : Int) := fun b hb => by rw [hg.len]; exact hbd b hb
    have hes := hg.sl e he
    have hsub : ∀ x ∈ cdel E.C nm, x ∈ E.C := fun x hx => (mem_cdel.1 hx).1
    have hfil : List.Sublist (cdel E.C nm) E.C := List.filter_sublist ..
    unfold dropC
    rw [hc, hbl, hsl, if_pos rfl]
    refine ⟨⟨hg.nms.sublist (hfil.map _), hg.slots.sublist (hfil.map _), fun x hx => hg.nm x (hsub x hx), fun x hx => hg.sl x (hsub x hx), fun x hx => hg.sz x (hsub x hx), fun x hx => hg.need x (hsub x hx), hg.bls.sublist (cbls_sub _ _), fun b hb => hg.bd b ((cbls_sub _ _).subset hb), by rw [zeroL_len]; exact hg.len, hg.k2, fun x hx => ?_, fun i hi => ?_⟩, by rw [List.length_set]; exact h.sll, fun i hi => ?_, h.spn, fun b hb => ?_⟩
    · have hx2 := mem_cdel.1 hx
      refine Lnk.congr (fun b hb => ?_) (hg.lnk x hx2.1)
      have hb2 := hg.bd b (mem_cbls.2 ⟨x, hx2.1, hb⟩)
      rw [zeroL_get hbd2, if_neg]
      rw [Int.toNat_of_nonneg hb2.1]
      exact cbls_disj hg.bls hg.nms hx2.1 he (by rw [hen]; exact hx2.2) hb
    · rw [zeroL_get hbd2]
      have h3 := hg.free i hi
      constructor
      · intro h4 h5
        obtain ⟨x, hx, hb⟩ := mem_cbls.1 h5
        have hx2 := mem_cdel.1 hx
        split at h4
        · rename_i hie
          exact cbls_disj hg.bls hg.nms he hx2.1 (by rw [hen]; exact fun q => hx2.2 q.symm) hie hb
        · exact h3.1 h4 (mem_cbls.2 ⟨x, hx2.1, hb⟩)
      · intro h4
        split
        · rfl
        · rename_i hie
          refine h3.2 fun h5 => h4 ?_
          obtain ⟨x, hx, hb⟩ := mem_cbls.1 h5
          refine mem_cbls.2 ⟨x, mem_cdel.2 ⟨hx, fun q => hie ?_⟩, hb⟩
          rw [name_inj hg.nms hx he (q.trans hen.symm)] at hb
          exact hb
    · simp only
      rw [getD_set (by rw [h.sll]; omega)]
      constructor
      · intro h4
        split at h4
        · cases h4
        · rename_i hne
          obtain ⟨x, hx, hxi⟩ := (h.sl i hi).1 h4
          refine ⟨x, mem_cdel.2 ⟨hx, fun q => hne ?_⟩, hxi⟩
          rw [name_inj hg.nms hx he (q.trans hen.symm)] at hxi
          omega
      · rintro ⟨x, hx, hxi⟩
        have hx2 := mem_cdel.1 hx
        rw [if_neg]
        · exact (h.sl i hi).2 ⟨x, hx2.1, hxi⟩
        · intro q
          exact hx2.2 ((congrArg (·.1) (slot_inj hg.slots hx2.1 he (by omega))).trans hen)
    · have h4 := h.spb b hb
      refine ⟨h4.1, h4.2.1, ?_⟩
      simp only
      rw [zeroL_get hbd2]
      split
      · rfl
      · exact h4.2.2
theorem chainS_other {n bl : List Int} {j : Nat} (hb : ∀ b ∈ bl, 0 ≤ b ∧ b < (n.length : Int)) : ∀ k, k ≤ bl.length → (j : Int) ∉ bl → (chainS n bl k).getD j 0 = n.getD j 0
  | 0, _, _ => rfl
  | k + 1, hk, hj => by
    have ih := chainS_other (j := j) hb k (by omega) hj
    have hel : ∀ q, q < bl.length → bl.getD q 0 ∈ bl := fun q hq => by
      rw [List.getD_eq_getElem?_getD, List.getElem?_eq_getElem hq]
      exact List.getElem_mem hq
    have hne : ∀ q, q < bl.length → ¬ j = (bl.getD q 0).toNat := fun q hq e => hj (by
      have := hb _ (hel q hq)
      rw [e, Int.toNat_of_nonneg this.1]
      exact hel q hq)
    have hlt : ∀ q, q < bl.length → (bl.getD q 0).toNat < n.length := fun q hq => by have := hb _ (hel q hq); omega
    rw [chainS]
    split
    · rw [getD_set (by rw [List.length_set, chainS_len]; exact hlt _ (by omega)), if_neg (hne _ (by omega)), getD_set (by rw [chainS_len]; exact hlt _ (by omega)), if_neg (hne _ (by omega)), ih]
    · rw [getD_set (by rw [chainS_len]; exact hlt _ (by omega)), if_neg (hne _ (by omega)), ih]
theorem getD_inj {bl : List Int} (hn : bl.Nodup) (hb : ∀ b ∈ bl, 0 ≤ b) {p q : Nat} (hp : p < bl.length) (hq : q < bl.length) (h : (bl.getD p 0).toNat = (bl.getD q 0).toNat) : p = q := by
  have e : ∀ q (hq : q < bl.length), bl.getD q 0 = bl[q] := fun q hq => by
    rw [List.getD_eq_getElem?_getD, List.getElem?_eq_getElem hq]; rfl
  have h1 := hb _ (List.getElem_mem hp)
  have h2 := hb _ (List.getElem_mem hq)
  rw [e p hp, e q hq] at h
  have h3 : bl[p] = bl[q] := by omega
  rcases Nat.lt_trichotomy p q with h4 | h4 | h4
  · exact absurd h3 (List.pairwise_iff_getElem.1 hn p q hp hq h4)
  · exact h4
  · exact absurd h3.symm (List.pairwise_iff_getElem.1 hn q p hq hp h4)
theorem chainS_get {n bl : List Int} (hn : bl.Nodup) (hb : ∀ b ∈ bl, 0 ≤ b ∧ b < (n.length : Int)) : ∀ k, k ≤ bl.length → ∀ q, q < k → (chainS n bl k).getD (bl.getD q 0).toNat 0 = if q + 1 < k then bl.getD (q + 1) 0 + 1 else 65535
  | 0, _, q, hq => absurd hq (Nat.not_lt_zero _)
  | k + 1, hk, q, hq => by
    have hel : ∀ q, q < bl.length → bl.getD q 0 ∈ bl := fun q hq => by
      rw [List.getD_eq_getElem?_getD, List.getElem?_eq_getElem hq]
      exact List.getElem_mem hq
    have hlt : ∀ q, q < bl.length → (bl.getD q 0).toNat < n.length := fun q hq => by have := hb _ (hel q hq); omega
    have inj : ∀ {p q : Nat}, p < bl.length → q < bl.length → p ≠ q → ¬ (bl.getD p 0).toNat = (bl.getD q 0).toNat := fun hp hq hne e => hne (getD_inj hn (fun b hb2 => (hb b hb2).1) hp hq e)
    rw [chainS]
    split
    · rename_i h0
      rw [getD_set (by rw [List.length_set, chainS_len]; exact hlt _ (by omega))]
      by_cases h1 : q = k - 1
      · subst h1
        rw [if_pos rfl, if_pos (by omega), show k - 1 + 1 = k by omega]
      · rw [if_neg (inj (by omega) (by omega) h1), getD_set (by rw [chainS_len]; exact hlt _ (by omega))]
        by_cases h2 : q = k
        · subst h2
          rw [if_pos rfl, if_neg (by omega)]
        · rw [if_neg (inj (by omega) (by omega) h2), chainS_get hn hb k (by omega) q (by omega), if_pos (by omega), if_pos (by omega)]
    · rename_i h0
      have hk0 : k = 0 := by omega
      subst hk0
      have : q = 0 := by omega
      subst this
      rw [getD_set (by rw [chainS_len]; exact hlt _ (by omega)), if_pos rfl, if_neg (by omega)]
theorem lnk_of_get {ns : List Int} : ∀ {bl : List Int}, (∀ q, q < bl.length → ns.getD (bl.getD q 0).toNat 0 = if q + 1 < bl.length then bl.getD (q + 1) 0 + 1 else 65535) → Lnk ns bl
  | [], _ => trivial
  | b :: bl, h => by
    refine ⟨?_, lnk_of_get fun q hq => ?_⟩
    · have h0 := h 0 (by simp)
      cases bl with
      | nil => exact h0
      | cons c bl => exact h0
    · have h1 := h (q + 1) (by simp; omega)
      simp only [List.length_cons, List.getD_cons_succ] at h1
      rw [h1]
      by_cases h2 : q + 1 < bl.length
      · rw [if_pos h2, if_pos (by omega)]
      · rw [if_neg h2, if_neg (by omega)]
theorem need_bd (n : Int) (h : 0 ≤ n) : 0 ≤ need n := by unfold need; omega
theorem EdOK.put {k : Nat} {E : Ed} (h : EdOK k E) {nm : ByteArray} {bs : List Int} {ix : Int} (hnm : 1 ≤ nm.size ∧ nm.size ≤ 40) (hix : freeIx (dropC E nm).sl ix) (hlen : need (bs.length : Int) ≤ (E.sp.length : Int)) : EdOK k (putC E nm bs ix) := by
  have hd := h.drop nm
  have hg := hd.good
  have hC : (dropC E nm).C = cdel E.C nm := rfl
  have hN : (dropC E nm).ns = zeroL E.ns (cbl E.C nm) := rfl
  have hS : (dropC E nm).sp = E.sp := rfl
  have hfree : chas (dropC E nm).C nm = false := cdel_has _ _
  have hn0 := need_bd (bs.length : Int) (by omega)
  obtain ⟨i0, i64, ifr⟩ := hix
  unfold putC
  rw [← hC, ← hN]
  generalize dropC E nm = D at *
  generalize hzs : E.sp.take (need (bs.length : Int)).toNat = zs at *
  have hzl : zs.length = (need (bs.length : Int)).toNat := by rw [← hzs, List.length_take]; omega
  have hz1 : ∀ b ∈ zs, 0 ≤ b ∧ b < (k : Int) ∧ D.ns.getD b.toNat 0 = 0 := fun b hb => hd.spb b (by rw [hS]; rw [← hzs] at hb; exact List.mem_of_mem_take hb)
  have hzn : zs.Nodup := by rw [← hzs]; exact h.spn.sublist (List.take_sublist _ _)
  have hzb : ∀ b ∈ zs, 0 ≤ b ∧ b < (D.ns.length : Int) := fun b hb => by rw [hg.len]; exact ⟨(hz1 b hb).1, (hz1 b hb).2.1⟩
  have hzd : ∀ b ∈ zs, b ∉ cbls D.C := fun b hb => by
    have h1 := hz1 b hb
    have := (hg.free b.toNat (by omega)).1 h1.2.2
    rwa [Int.toNat_of_nonneg h1.1] at this
  have hoth : ∀ j : Nat, (j : Int) ∉ zs → (chainS D.ns zs zs.length).getD j 0 = D.ns.getD j 0 := fun j hj => chainS_other hzb _ (Nat.le_refl _) hj
  have hget := chainS_get hzn hzb zs.length (Nat.le_refl _)
  have app : ∀ {P : En → Prop}, (∀ e ∈ D.C, P e) → P (nm, ix, (bs.length : Int), zs) → ∀ e ∈ D.C ++ [(nm, ix, (bs.length : Int), zs)], P e := fun g1 g2 e he => by
    rcases List.mem_append.1 he with he | he
    · exact g1 e he
    · rw [List.mem_singleton.1 he]; exact g2
  have hidx : ∀ b ∈ zs, ∃ q, q < zs.length ∧ zs.getD q 0 = b := fun b hb => by
    obtain ⟨q, hq, rfl⟩ := List.mem_iff_getElem.1 hb
    exact ⟨q, hq, by rw [List.getD_eq_getElem?_getD, List.getElem?_eq_getElem hq]; rfl⟩
  have hnz : ∀ b ∈ zs, (chainS D.ns zs zs.length).getD b.toNat 0 ≠ 0 := fun b hb => by
    obtain ⟨q, hq, rfl⟩ := hidx b hb
    rw [hget q hq]
    split
    · rename_i h2
      have : zs.getD (q + 1) 0 ∈ zs := by rw [List.getD_eq_getElem?_getD, List.getElem?_eq_getElem h2]; exact List.getElem_mem h2
      have := (hz1 _ this).1
      omega
    · decide
  refine ⟨⟨?_, ?_, app hg.nm hnm, app hg.sl ⟨i0, i64⟩, app hg.sz (by simp only; omega), app hg.need (by simp only; omega), ?_, ?_, by rw [chainS_len]; exact hg.len, hg.k2, app (fun e he => ?_) (lnk_of_get hget), fun i hi => ?_⟩, by simp only; rw [List.length_set]; exact hd.sll, fun i hi => ?_, h.spn.sublist (List.drop_sublist _ _), fun b hb => ?_⟩
  · rw [List.map_append, List.nodup_append]
    refine ⟨hg.nms, by simp, fun a ha b hb => ?_⟩
    rw [List.map_singleton, List.mem_singleton] at hb
    obtain ⟨e, he, rfl⟩ := List.mem_map.1 ha
    rw [hb]
    exact chas_not.1 hfree e he
  · rw [List.map_append, List.nodup_append]
    refine ⟨hg.slots, by simp, fun a ha b hb => ?_⟩
    rw [List.map_singleton, List.mem_singleton] at hb
    obtain ⟨e, he, rfl⟩ := List.mem_map.1 ha
    rw [hb]
    intro e2
    have e2 : e.2.1 = ix := e2
    have := (hd.sl ix.toNat (by omega)).2 ⟨e, he, by omega⟩
    rw [ifr] at this
    cases this
  · rw [cbls_snoc, List.nodup_append]
    exact ⟨hg.bls, hzn, fun a ha b hb e => hzd b hb (e ▸ ha)⟩
  · intro b hb
    rw [cbls_snoc] at hb
    rcases List.mem_append.1 hb with hb | hb
    · exact hg.bd b hb
    · exact ⟨(hz1 b hb).1, (hz1 b hb).2.1⟩
  · refine Lnk.congr (fun b hb => ?_) (hg.lnk e he)
    have h1 := hg.bd b (mem_cbls.2 ⟨e, he, hb⟩)
    rw [hoth]
    rw [Int.toNat_of_nonneg h1.1]
    exact fun h2 => hzd b h2 (mem_cbls.2 ⟨e, he, hb⟩)
  · rw [cbls_snoc, List.mem_append]
    by_cases hiz : (i : Int) ∈ zs
    · have := hnz _ hiz
      rw [show ((i : Nat) : Int).toNat = i from rfl] at this
      exact ⟨fun h => absurd h this, fun h => absurd (.inr hiz) h⟩
    · rw [hoth i hiz, hg.free i hi]
      exact ⟨fun h g => g.elim h hiz, fun h g => h (.inl g)⟩
  · simp only
    rw [getD_set (by rw [hd.sll]; omega)]
    constructor
    · intro h4
      split at h4
      · rename_i he
        exact ⟨_, List.mem_append_right _ (List.mem_singleton.2 rfl), by simp only; omega⟩
      · obtain ⟨e, he, h5⟩ := (hd.sl i hi).1 h4
        exact ⟨e, List.mem_append_left _ he, h5⟩
    · rintro ⟨e, he, h5⟩
      rcases List.mem_append.1 he with he | he
      · split
        · rfl
        · exact (hd.sl i hi).2 ⟨e, he, h5⟩
      · rw [List.mem_singleton.1 he] at h5
        simp only at h5
        rw [if_pos (by omega)]
  · have h1 := hd.spb b (by rw [hS]; exact List.mem_of_mem_drop hb)
    refine ⟨h1.1, h1.2.1, ?_⟩
    simp only
    rw [hoth, h1.2.2]
    rw [Int.toNat_of_nonneg h1.1]
    intro h2
    rw [← hzs] at h2
    have h3 := h.spn
    rw [← List.take_append_drop (need (bs.length : Int)).toNat E.sp, List.nodup_append] at h3
    exact h3.2.2 b h2 b hb rfl
end Go.Proofs.Ytlibhidhfbecbaa.SL.I
