/- Files: changes that may be done, and are. -/
import Derived.Test.YtlibhidhfbecbaaEdPure
namespace Go.Proofs.Ytlibhidhfbecbaa.SL.I
set_option linter.unusedVariables false
set_option linter.unusedSimpArgs false
open Go Go.Proofs.Ytlibhidhfbecbaa.SL Go.Proofs.Ytlibhidhfbecbaa.SL.W Go.Proofs.Ytlibhidhfbecbaa.SL.D

def tgt (C : Con) (l : List Ca) : Nat → List ByteArray
  | 0 => C.map (·.1)
  | i + 1 => match l[i]? with
    | some (nm, true, _) => (tgt C l i).filter fun k => decide (k ≠ nm)
    | some (nm, false, _) => if chas C nm = true then tgt C l i else tgt C l i ++ [nm]
    | none => tgt C l i
def needs (l : List Ca) : Nat → Int
  | 0 => 0
  | i + 1 => match l[i]? with
    | some (_, false, bs) => needs l i + need (bs.length : Int)
    | _ => needs l i
theorem needs_mono (l : List Ca) : ∀ {i j : Nat}, i ≤ j → needs l i ≤ needs l j
  | i, 0, h => by rw [show i = 0 by omega]; exact Int.le_refl _
  | i, j + 1, h => by
    by_cases hi : i = j + 1
    · rw [hi]; exact Int.le_refl _
    · have ih := needs_mono l (i := i) (j := j) (by omega)
      rw [needs]
      split
      · rename_i nm bs _
        have := need_bd (bs.length : Int) (by omega)
        omega
      · exact ih
theorem needs_0 (l : List Ca) (i : Nat) : 0 ≤ needs l i := needs_mono l (Nat.zero_le i)
theorem filter_ne_len {T : List ByteArray} (h : T.Nodup) {k : ByteArray} (hk : k ∈ T) : ((T.filter fun x => decide (x ≠ k)).length : Int) = T.length - 1 := by
  induction T with
  | nil => cases hk
  | cons a T ih =>
    rw [List.nodup_cons] at h
    rw [List.filter_cons]
    by_cases ha : a = k
    · subst ha
      have e2 : T.filter (fun x => decide (x ≠ a)) = T := List.filter_eq_self.2 (fun x hx => decide_eq_true (fun (e : x = a) => h.1 (e ▸ hx)))
      rw [if_neg (by simp), e2, List.length_cons]
      omega
    · rw [if_pos (by simpa using ha), List.length_cons, List.length_cons]
      have := ih h.2 ((List.mem_cons.1 hk).resolve_left (fun e => ha e.symm))
      omega
theorem nin_iff {l : List Ca} {k : ByteArray} : nin l k = true ↔ ∃ r ∈ l, r.1 = k := by
  unfold nin
  rw [List.any_eq_true]
  exact ⟨fun ⟨e, h, g⟩ => ⟨e, h, (of_decide_eq_true g).symm⟩, fun ⟨e, h, g⟩ => ⟨e, h, decide_eq_true g.symm⟩⟩
def isGone (l : List Ca) (k : ByteArray) : Prop := ∃ r ∈ l, r.1 = k ∧ r.2.1 = true
def isPut (l : List Ca) (k : ByteArray) : Prop := ∃ r ∈ l, r.1 = k ∧ r.2.1 = false
structure MayN (C : Con) (l : List Ca) (i : Nat) (f b : Int) : Prop where
  cnt : f = ((tgt C l i).length : Int)
  nt : b = needs l i
  nm : ∀ r ∈ l.take i, 1 ≤ r.1.size ∧ r.1.size ≤ 40
  nd : ((l.take i).map (·.1)).Nodup
  gone : ∀ r ∈ l.take i, r.2.1 = true → chas C r.1 = true
  tn : (tgt C l i).Nodup
  tm : ∀ k, k ∈ tgt C l i ↔ (chas C k = true ∧ ¬ isGone (l.take i) k) ∨ isPut (l.take i) k
theorem take_mem {l : List Ca} {i : Nat} {r x : Ca} (hg : l[i]? = some r) : x ∈ l.take (i + 1) ↔ x ∈ l.take i ∨ x = r := by
  rw [List.take_add_one, hg, List.mem_append]
  simp
theorem mayS_ok {C : Con} {l : List Ca} (hn : (C.map (·.1)).Nodup) : ∀ {i : Nat} {f b : Int}, mayS C l i = some (f, b, false) → i ≤ l.length → MayN C l i f b
  | 0, f, b, h, _ => by
    rw [mayS] at h
    cases h
    refine ⟨by simp [tgt], rfl, fun r hr => by simp at hr, by simp, fun r hr => by simp at hr, hn, fun k => ?_⟩
    rw [tgt, chas_iff, List.mem_map]
    simp only [isGone, isPut, List.take_zero, List.not_mem_nil, false_and, exists_false, not_false_eq_true, and_true, or_false]
  | i + 1, f, b, h, hi => by
    have hlt : i < l.length := by omega
    rw [mayS] at h
    cases hp : mayS C l i with
    | none => rw [hp] at h; cases h
    | some s =>
      obtain ⟨f0, b0, m0⟩ := s
      have hg : l[i]? = some l[i] := List.getElem?_eq_getElem hlt
      rw [hp, hg] at h
      generalize hr : l[i] = r at *
      obtain ⟨nm, g, x⟩ := r
      simp only at h
      split at h
      · cases h
      · rename_i hbad
        have hbad : ¬ (nm.size < 1 ∨ 40 < nm.size ∨ nin (l.take i) nm = true) := hbad
        have hnin : ∀ r ∈ l.take i, r.1 ≠ nm := fun r hr e => hbad (.inr (.inr (nin_iff.2 ⟨r, hr, e⟩)))
        have hm0 : m0 = false := by
          split at h
          · split at h
            · cases h; rfl
            · cases h
          · cases h; rfl
        subst hm0
        have ih := mayS_ok hn hp (by omega)
        have nm' : ∀ r ∈ l.take (i + 1), 1 ≤ r.1.size ∧ r.1.size ≤ 40 := fun r hr => by
          rcases (take_mem hg).1 hr with hr | rfl
          · exact ih.nm r hr
          · exact ⟨by simp only; omega, by simp only; omega⟩
        have nd' : ((l.take (i + 1)).map (·.1)).Nodup := by
          rw [List.take_add_one, hg, Option.toList_some, List.map_append, List.nodup_append]
          refine ⟨ih.nd, by simp, fun a ha b hb => ?_⟩
          rw [List.map_singleton, List.mem_singleton] at hb
          obtain ⟨r, hr, rfl⟩ := List.mem_map.1 ha
          rw [hb]
          exact hnin r hr
        have hgone : ∀ k, isGone (l.take (i + 1)) k ↔ isGone (l.take i) k ∨ (k = nm ∧ g = true) := fun k => by
          unfold isGone
          constructor
          · rintro ⟨r, hr, h1, h2⟩
            rcases (take_mem hg).1 hr with hr | rfl
            · exact .inl ⟨r, hr, h1, h2⟩
            · exact .inr ⟨h1.symm, h2⟩
          · rintro (⟨r, hr, h1, h2⟩ | ⟨rfl, rfl⟩)
            · exact ⟨r, (take_mem hg).2 (.inl hr), h1, h2⟩
            · exact ⟨_, (take_mem hg).2 (.inr rfl), rfl, rfl⟩
        have hput : ∀ k, isPut (l.take (i + 1)) k ↔ isPut (l.take i) k ∨ (k = nm ∧ g = false) := fun k => by
          unfold isPut
          constructor
          · rintro ⟨r, hr, h1, h2⟩
            rcases (take_mem hg).1 hr with hr | rfl
            · exact .inl ⟨r, hr, h1, h2⟩
            · exact .inr ⟨h1.symm, h2⟩
          · rintro (⟨r, hr, h1, h2⟩ | ⟨rfl, rfl⟩)
            · exact ⟨r, (take_mem hg).2 (.inl hr), h1, h2⟩
            · exact ⟨_, (take_mem hg).2 (.inr rfl), rfl, rfl⟩
        have hngone : ¬ isGone (l.take i) nm := fun ⟨r, hr, h1, _⟩ => hnin r hr h1
        have hnput : ¬ isPut (l.take i) nm := fun ⟨r, hr, h1, _⟩ => hnin r hr h1
        cases g with
        | true =>
          simp only [if_true] at h
          split at h
          · rename_i hc
            cases h
            have hin : nm ∈ tgt C l i := (ih.tm nm).2 (.inl ⟨hc, hngone⟩)
            have et : tgt C l (i + 1) = (tgt C l i).filter fun k => decide (k ≠ nm) := by rw [tgt, hg]
            refine ⟨?_, by rw [needs, hg]; exact ih.nt, nm', nd', fun r hr h2 => ?_, by rw [et]; exact ih.tn.sublist (List.filter_sublist ..), fun k => ?_⟩
            · rw [et, filter_ne_len ih.tn hin, ih.cnt]
            · rcases (take_mem hg).1 hr with hr | rfl
              · exact ih.gone r hr h2
              · exact hc
            · rw [et, List.mem_filter, ih.tm k, hgone k, hput k]
              simp only [decide_eq_true_eq, ne_eq]
              constructor
              · rintro ⟨h1 | h1, h2⟩
                · exact .inl ⟨h1.1, fun q => q.elim h1.2 (fun q => h2 q.1)⟩
                · exact .inr (.inl h1)
              · rintro (⟨h1, h2⟩ | h1 | h1)
                · exact ⟨.inl ⟨h1, fun q => h2 (.inl q)⟩, fun q => h2 (.inr ⟨q, trivial⟩)⟩
                · exact ⟨.inr h1, fun q => hnput (q ▸ h1)⟩
                · cases h1.2
          · cases h
        | false =>
          simp only [Bool.false_eq_true, if_false] at h
          injection h with h
          obtain ⟨h1, h2⟩ := Prod.mk.inj h
          obtain ⟨h2, _⟩ := Prod.mk.inj h2
          have et : tgt C l (i + 1) = if chas C nm = true then tgt C l i else tgt C l i ++ [nm] := by rw [tgt, hg]
          refine ⟨?_, by rw [needs, hg, ← h2, ih.nt], nm', nd', fun r hr h3 => ?_, ?_, fun k => ?_⟩
          · rw [← h1, et, ih.cnt]
            split
            · rfl
            · rw [List.length_append, List.length_singleton]; omega
          · rcases (take_mem hg).1 hr with hr | rfl
            · exact ih.gone r hr h3
            · cases h3
          · rw [et]
            split
            · exact ih.tn
            · rename_i hc
              rw [List.nodup_append]
              refine ⟨ih.tn, by simp, fun a ha b hb e => ?_⟩
              rw [List.mem_singleton] at hb
              rw [hb] at e
              rw [e] at ha
              rcases (ih.tm nm).1 ha with h4 | h4
              · exact hc h4.1
              · exact hnput h4
          · rw [hgone k, hput k, et]
            have e1 : k ∈ tgt C l i ↔ _ := ih.tm k
            split
            · rename_i hc
              rw [e1]
              constructor
              · rintro (h4 | h4)
                · exact .inl ⟨h4.1, fun q => q.elim h4.2 (fun q => by cases q.2)⟩
                · exact .inr (.inl h4)
              · rintro (⟨h4, h5⟩ | h4 | ⟨rfl, _⟩)
                · exact .inl ⟨h4, fun q => h5 (.inl q)⟩
                · exact .inr h4
                · exact .inl ⟨hc, hngone⟩
            · rename_i hc
              rw [List.mem_append, e1, List.mem_singleton]
              constructor
              · rintro ((h4 | h4) | rfl)
                · exact .inl ⟨h4.1, fun q => q.elim h4.2 (fun q => by cases q.2)⟩
                · exact .inr (.inl h4)
                · exact .inr (.inr ⟨rfl, rfl⟩)
              · rintro (⟨h4, h5⟩ | h4 | ⟨rfl, _⟩)
                · exact .inl (.inl ⟨h4, fun q => h5 (.inl q)⟩)
                · exact .inl (.inr h4)
                · exact .inr rfl
structure MayOK (C : Con) (l : List Ca) (fr : Int) : Prop where
  cnt : (tgt C l l.length).length ≤ 64
  nt : needs l l.length ≤ fr
  nm : ∀ r ∈ l, 1 ≤ r.1.size ∧ r.1.size ≤ 40
  nd : (l.map (·.1)).Nodup
  gone : ∀ r ∈ l, r.2.1 = true → chas C r.1 = true
  tn : (tgt C l l.length).Nodup
  tm : ∀ k, k ∈ tgt C l l.length ↔ (chas C k = true ∧ ¬ isGone l k) ∨ isPut l k
theorem mayF_ok {C : Con} {l : List Ca} {fr : Int} (hn : (C.map (·.1)).Nodup) (h : mayF C l fr = 0) : MayOK C l fr := by
  unfold mayF at h
  cases hs : mayS C l l.length with
  | none => rw [hs] at h; cases h
  | some s =>
    obtain ⟨f, b, m⟩ := s
    rw [hs] at h
    simp only at h
    split at h
    · cases h
    · rename_i hm
      have hm : m = false := by cases m <;> simp_all
      subst hm
      have q := mayS_ok hn hs (Nat.le_refl _)
      split at h
      · cases h
      · rename_i h64
        split at h
        · cases h
        · rename_i hsp
          have h1 := q.cnt
          have h2 := q.nt
          have e := List.take_length (l := l)
          refine ⟨by omega, by omega, ?_, ?_, ?_, q.tn, ?_⟩
          · have := q.nm; rwa [e] at this
          · have := q.nd; rwa [e] at this
          · have := q.gone; rwa [e] at this
          · have := q.tm; rwa [e] at this
theorem dropsC_mem {l : List Ca} {E : Ed} {x : En} : ∀ {i : Nat}, x ∈ (dropsC l E i).C ↔ x ∈ E.C ∧ ¬ isGone (l.take i) x.1
  | 0 => by simp [dropsC, isGone]
  | i + 1 => by
    rw [dropsC]
    split
    · rename_i nm bs hg
      show x ∈ cdel _ nm ↔ _
      rw [mem_cdel, dropsC_mem (i := i)]
      constructor
      · rintro ⟨⟨h1, h2⟩, h3⟩
        refine ⟨h1, fun ⟨r, hr, q1, q2⟩ => ?_⟩
        rcases (take_mem hg).1 hr with hr | rfl
        · exact h2 ⟨r, hr, q1, q2⟩
        · exact h3 q1.symm
      · rintro ⟨h1, h2⟩
        exact ⟨⟨h1, fun ⟨r, hr, q⟩ => h2 ⟨r, (take_mem hg).2 (.inl hr), q⟩⟩, fun q => h2 ⟨_, (take_mem hg).2 (.inr rfl), q.symm, rfl⟩⟩
    · rename_i hn
      rw [dropsC_mem (i := i)]
      refine and_congr_right fun _ => not_congr ?_
      constructor
      · rintro ⟨r, hr, q⟩
        rw [List.take_add_one]
        exact ⟨r, List.mem_append_left _ hr, q⟩
      · rintro ⟨r, hr, q1, q2⟩
        rw [List.take_add_one] at hr
        rcases List.mem_append.1 hr with hr | hr
        · exact ⟨r, hr, q1, q2⟩
        · cases hg : l[i]? with
          | none => rw [hg] at hr; simp at hr
          | some r2 =>
            rw [hg] at hr
            simp only [Option.toList_some, List.mem_singleton] at hr
            subst hr
            obtain ⟨nm, g, bs⟩ := r
            simp only at q2
            subst q2
            exact absurd hg (hn nm bs)
theorem dropsC_sp {l : List Ca} {E : Ed} : ∀ i, (dropsC l E i).sp = E.sp
  | 0 => rfl
  | i + 1 => by
    rw [dropsC]
    split
    · exact dropsC_sp i
    · exact dropsC_sp i
theorem dropsC_ok {l : List Ca} {E : Ed} {k : Nat} (h : EdOK k E) : ∀ i, EdOK k (dropsC l E i)
  | 0 => h
  | i + 1 => by
    rw [dropsC]
    split
    · exact (dropsC_ok h i).drop _
    · exact dropsC_ok h i
theorem begin_ok {k : Nat} {C : Con} {ns : List Int} {sl : List Bool} (h : Good C ns k) (hl : sl.length = 64) (hs : ∀ i : Nat, i < 64 → (sl.getD i false = true ↔ ∃ e ∈ C, e.2.1 = (i : Int))) : EdOK k ⟨C, ns, sl, frL ns⟩ := by
  refine ⟨h, hl, hs, ?_, fun b hb => ?_⟩
  · show ((List.range ns.length).filter _ |>.map _).Nodup
    unfold List.Nodup
    rw [List.pairwise_map]
    exact ((List.nodup_range (n := ns.length)).sublist (List.filter_sublist ..)).imp (fun hab e => hab (by exact_mod_cast e))
  · obtain ⟨i, hi, rfl⟩ := List.mem_map.1 hb
    have h1 := List.mem_filter.1 hi
    have h2 := List.mem_range.1 h1.1
    have h3 := h.len
    exact ⟨by omega, by omega, by simpa using h1.2⟩
structure PutOK (k : Nat) (l : List Ca) (E0 : Ed) (i : Nat) (E : Ed) : Prop where
  ed : EdOK k E
  sp : E.sp = E0.sp.drop (needs l i).toNat
  has : ∀ q, chas E.C q = true ↔ chas E0.C q = true ∨ isPut (l.take i) q
theorem isPut_succ {l : List Ca} {i : Nat} {nm k : ByteArray} {g : Bool} {bs : List Int} (hg : l[i]? = some (nm, g, bs)) : isPut (l.take (i + 1)) k ↔ isPut (l.take i) k ∨ (k = nm ∧ g = false) := by
  unfold isPut
  constructor
  · rintro ⟨r, hr, h1, h2⟩
    rcases (take_mem hg).1 hr with hr | rfl
    · exact .inl ⟨r, hr, h1, h2⟩
    · exact .inr ⟨h1.symm, h2⟩
  · rintro (⟨r, hr, h1, h2⟩ | ⟨rfl, rfl⟩)
    · exact ⟨r, (take_mem hg).2 (.inl hr), h1, h2⟩
    · exact ⟨_, (take_mem hg).2 (.inr rfl), rfl, rfl⟩
theorem putC_has {E : Ed} {nm q : ByteArray} {bs : List Int} {ix : Int} : chas (putC E nm bs ix).C q = true ↔ chas E.C q = true ∨ q = nm := by
  show chas (cdel E.C nm ++ _) q = true ↔ _
  rw [chas_iff, chas_iff]
  constructor
  · rintro ⟨e, he, rfl⟩
    rcases List.mem_append.1 he with he | he
    · exact .inl ⟨e, (mem_cdel.1 he).1, rfl⟩
    · rw [List.mem_singleton.1 he]; exact .inr rfl
  · rintro (⟨e, he, rfl⟩ | rfl)
    · by_cases h : e.1 = nm
      · exact ⟨_, List.mem_append_right _ (List.mem_singleton.2 rfl), h.symm⟩
      · exact ⟨e, List.mem_append_left _ (mem_cdel.2 ⟨he, h⟩), rfl⟩
    · exact ⟨_, List.mem_append_right _ (List.mem_singleton.2 rfl), rfl⟩
theorem putN_ok {k : Nat} {l : List Ca} {E0 : Ed} (h0 : EdOK k E0) (hnm : ∀ r ∈ l, 1 ≤ r.1.size ∧ r.1.size ≤ 40) (hsp : needs l l.length ≤ (E0.sp.length : Int)) : ∀ {i : Nat} {E : Ed} {W : Wt}, i ≤ l.length → PutN l E0 i E W → PutOK k l E0 i E
  | 0, E, W, _, h => by
    obtain ⟨rfl, rfl⟩ := h
    refine ⟨h0, by simp [needs], fun q => ?_⟩
    simp [isPut]
  | i + 1, E, W, hi, h => by
    have hlt : i < l.length := by omega
    have hg : l[i]? = some l[i] := List.getElem?_eq_getElem hlt
    unfold PutN at h
    rw [hg] at h
    generalize hr : l[i] = r at *
    obtain ⟨nm, g, bs⟩ := r
    cases g with
    | true =>
      simp only at h
      have ih := putN_ok h0 hnm hsp (by omega) h
      refine ⟨ih.ed, by rw [needs, hg]; exact ih.sp, fun q => ?_⟩
      rw [ih.has, isPut_succ hg]
      simp
    | false =>
      simp only at h
      obtain ⟨E1, W1, ix, h1, h2, h3, h4⟩ := h
      have ih := putN_ok h0 hnm hsp (by omega) h1
      have hn := needs_mono l (i := i + 1) (j := l.length) (by omega)
      have e : needs l (i + 1) = needs l i + need (bs.length : Int) := by rw [needs, hg]
      have hn0 := needs_0 l i
      have hb0 := need_bd (bs.length : Int) (by omega)
      have hle : need (bs.length : Int) ≤ (E1.sp.length : Int) := by rw [ih.sp, List.length_drop]; omega
      have hm := hnm _ (List.mem_of_getElem? hg)
      subst h3
      refine ⟨ih.ed.put hm h2 hle, ?_, fun q => ?_⟩
      · show E1.sp.drop _ = _
        rw [ih.sp, List.drop_drop, e]
        congr 1
        omega
      · rw [putC_has, ih.has, isPut_succ hg]
        simp only [and_true]
        exact or_assoc
theorem putN_pre {k : Nat} {C : Con} {l : List Ca} {E E0 : Ed} {W : Wt} {i : Nat} {nm : ByteArray} {bs : List Int} {fr : Int} (hE : EdOK k E0) (hC : ∀ q, chas E0.C q = true ↔ chas C q = true ∧ ¬ isGone l q) (hm : MayOK C l fr) (hfr : fr = (E0.sp.length : Int)) (h : PutN l E0 i E W) (hg : l[i]? = some (nm, false, bs)) :
    need (bs.length : Int) ≤ (E.sp.length : Int) ∧ (∃ j : Nat, j < 64 ∧ (dropC E nm).sl.getD j false = false) := by
  have hlt := (List.getElem?_eq_some_iff.1 hg).1
  have ih := putN_ok hE hm.nm (by have := hm.nt; omega) (by omega) h
  have hn := needs_mono l (i := i + 1) (j := l.length) (by omega)
  have e : needs l (i + 1) = needs l i + need (bs.length : Int) := by rw [needs, hg]
  have hn0 := needs_0 l i
  have hb0 := need_bd (bs.length : Int) (by omega)
  have hnt := hm.nt
  refine ⟨by rw [ih.sp, List.length_drop]; omega, ?_⟩
  have hd := ih.ed.drop nm
  apply Decidable.byContradiction
  intro hno
  have hall : ∀ j : Nat, j < 64 → ∃ x ∈ (dropC E nm).C, x.2.1 = (j : Int) := fun j hj => (hd.sl j hj).1 (by
    cases hv : (dropC E nm).sl.getD j false with
    | true => rfl
    | false => exact absurd ⟨j, hj, hv⟩ hno)
  have h64 : 64 ≤ ((dropC E nm).C.map (·.2.1)).length := by
    have := nodup_le (es := (List.range 64).map fun j : Nat => (j : Int)) (F := (dropC E nm).C.map (·.2.1)) ?_ ?_
    · rw [List.length_map, List.length_range] at this; exact this
    · unfold List.Nodup
      rw [List.pairwise_map]
      exact (List.nodup_range (n := 64)).imp (fun hab e => hab (by exact_mod_cast e))
    · intro x hx
      obtain ⟨j, hj, rfl⟩ := List.mem_map.1 hx
      obtain ⟨y, hy, hyj⟩ := hall j (List.mem_range.1 hj)
      exact List.mem_map.2 ⟨y, hy, hyj⟩
  have h63 : ((dropC E nm).C.map (·.1) ++ [nm]).length ≤ (tgt C l l.length).length := by
    refine nodup_le ?_ ?_
    · rw [List.nodup_append]
      refine ⟨hd.good.nms, by simp, fun a ha b hb => ?_⟩
      rw [List.mem_singleton] at hb
      obtain ⟨x, hx, rfl⟩ := List.mem_map.1 ha
      rw [hb]
      exact (mem_cdel.1 hx).2
    · intro x hx
      have hsub : ∀ q, isPut (l.take i) q → isPut l q := fun q ⟨r, hr, h1⟩ => ⟨r, List.mem_of_mem_take hr, h1⟩
      rw [hm.tm]
      rcases List.mem_append.1 hx with hx | hx
      · obtain ⟨y, hy, rfl⟩ := List.mem_map.1 hx
        have := (ih.has y.1).1 (chas_iff.2 ⟨y, (mem_cdel.1 hy).1, rfl⟩)
        rcases this with h1 | h1
        · exact .inl ((hC _).1 h1)
        · exact .inr (hsub _ h1)
      · rw [List.mem_singleton.1 hx]
        exact .inr ⟨_, List.mem_of_getElem? hg, rfl, rfl⟩
  have := hm.cnt
  rw [List.length_append, List.length_map] at h63
  rw [List.length_map] at h64
  simp at h63
  omega
end Go.Proofs.Ytlibhidhfbecbaa.SL.I
