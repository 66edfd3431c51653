/- Files: what holds of them, and what a disk that is opened again tells. -/
import Derived.Test.YtlibhidhfbecbaaIPure
namespace Go.Proofs.Ytlibhidhfbecbaa.SL.I
set_option linter.unusedVariables false
set_option linter.unusedSimpArgs false
open Go Go.Proofs.Ytlibhidhfbecbaa.SL Go.Proofs.Ytlibhidhfbecbaa.SL.W Go.Proofs.Ytlibhidhfbecbaa.SL.D

def firstB : List Int → Int
  | [] => 65535
  | b :: _ => b + 1
def Lnk (ns : List Int) : List Int → Prop
  | [] => True
  | b :: bl => ns.getD b.toNat 0 = firstB bl ∧ Lnk ns bl
def marks (us : List Bool) (bl : List Int) : List Bool := bl.foldl (fun u b => u.set b.toNat true) us
theorem marks_len : ∀ (bl : List Int) (us : List Bool), (marks us bl).length = us.length
  | [], us => rfl
  | b :: bl, us => by
    have := marks_len bl (us.set b.toNat true)
    rw [List.length_set] at this
    exact this
theorem getD_set {α : Type} {xs : List α} {i j : Nat} {v d : α} (hi : i < xs.length) : (xs.set i v).getD j d = if j = i then v else xs.getD j d := by
  rw [List.getD_eq_getElem?_getD, List.getD_eq_getElem?_getD]
  by_cases h : j = i
  · subst h; rw [if_pos rfl, List.getElem?_set_self hi]; rfl
  · rw [if_neg h, List.getElem?_set_ne (fun e => h e.symm)]
theorem marks_get {i : Nat} : ∀ {bl : List Int} {us : List Bool}, (∀ b ∈ bl, 0 ≤ b ∧ b < (us.length : Int)) → ((marks us bl).getD i false = true ↔ us.getD i false = true ∨ (i : Int) ∈ bl)
  | [], us, _ => by simp [marks]
  | b :: bl, us, h => by
    have h0 := h b List.mem_cons_self
    have ih := marks_get (i := i) (bl := bl) (us := us.set b.toNat true) (fun x hx => by rw [List.length_set]; exact h x (List.mem_cons_of_mem _ hx))
    have e : marks us (b :: bl) = marks (us.set b.toNat true) bl := rfl
    rw [e, ih, getD_set (by omega), List.mem_cons]
    by_cases hi : i = b.toNat
    · rw [if_pos hi]
      have : (i : Int) = b := by omega
      simp [this]
    · rw [if_neg hi]
      have : ¬ (i : Int) = b := by omega
      simp [this]
theorem Lnk.congr {ns ms : List Int} : ∀ {bl : List Int}, (∀ b ∈ bl, ms.getD b.toNat 0 = ns.getD b.toNat 0) → Lnk ns bl → Lnk ms bl
  | [], _, _ => trivial
  | b :: bl, h, g => ⟨(h b List.mem_cons_self).trans g.1, Lnk.congr (fun x hx => h x (List.mem_cons_of_mem _ hx)) g.2⟩
theorem chain_follow {ns : List Int} (hk : ns.length ≤ 2048) : ∀ {bl : List Int} {us : List Bool} {out : List Int}, us.length = ns.length → Lnk ns bl → bl.Nodup → (∀ b ∈ bl, 0 ≤ b ∧ b < (ns.length : Int) ∧ us.getD b.toNat false = false) → chainP ns bl.length (firstB bl) us out = (out ++ bl, true, marks us bl)
  | [], us, out, _, _, _, _ => by rw [List.length_nil, chainP, if_pos (show firstB [] = 65535 from rfl)]; simp [marks]
  | b :: bl, us, out, hu, hl, hn, hb => by
    have h0 := hb b List.mem_cons_self
    rw [List.nodup_cons] at hn
    have ef : firstB (b :: bl) = b + 1 := rfl
    have ih := chain_follow hk (bl := bl) (us := us.set b.toNat true) (out := out ++ [b]) (by rw [List.length_set]; exact hu) hl.2 hn.2 (fun x hx => by
      have h1 := hb x (List.mem_cons_of_mem _ hx)
      refine ⟨h1.1, h1.2.1, ?_⟩
      rw [getD_set (by omega), if_neg]
      · exact h1.2.2
      · intro e
        have : x = b := by omega
        exact hn.1 (this ▸ hx))
    rw [List.length_cons, ef, chainP, show b + 1 - 1 = b by omega, if_neg (by omega), if_neg (by rw [h0.2.2]; simp; omega), hl.1, ih]
    simp [marks]
theorem chain_linked {ns : List Int} : ∀ {m : Nat} {a : Int} {us us2 : List Bool} {out zs : List Int}, us.length = ns.length → (zs, true, us2) = chainP ns m a us out →
    ∃ bl, zs = out ++ bl ∧ a = firstB bl ∧ Lnk ns bl ∧ bl.Nodup ∧ (∀ b ∈ bl, 0 ≤ b ∧ b < (ns.length : Int) ∧ us.getD b.toNat false = false) ∧ us2 = marks us bl ∧ bl.length = m
  | 0, a, us, us2, out, zs, hu, h => by
    rw [chainP] at h
    split at h
    · rename_i ha
      cases h
      exact ⟨[], by simp, ha, trivial, List.nodup_nil, fun b hb => (by cases hb), rfl, rfl⟩
    · cases h
  | m + 1, a, us, us2, out, zs, hu, h => by
    rw [chainP] at h
    split at h
    · cases h
    · split at h
      · cases h
      · rename_i ha hn
        have hx : 0 ≤ a - 1 ∧ a - 1 < (ns.length : Int) ∧ us.getD (a - 1).toNat false = false := by
          refine ⟨by omega, by omega, ?_⟩
          cases hu2 : us.getD (a - 1).toNat false with
          | false => rfl
          | true => exact absurd (.inr (.inr hu2)) hn
        obtain ⟨bl, h1, h2, h3, h4, h5, h6, h7⟩ := chain_linked (by rw [List.length_set]; exact hu) h
        have h8 : ∀ b ∈ bl, b ≠ a - 1 ∧ us.getD b.toNat false = false := fun b hb => by
          have := (h5 b hb)
          have g := this.2.2
          rw [getD_set (by omega)] at g
          split at g
          · cases g
          · rename_i hne
            exact ⟨fun e => hne (by rw [e]), g⟩
        refine ⟨(a - 1) :: bl, by rw [h1]; simp, by simp only [firstB]; omega, ⟨h2, h3⟩, ?_, ?_, h6, by rw [List.length_cons, h7]⟩
        · rw [List.nodup_cons]
          exact ⟨fun hb => (h8 _ hb).1 rfl, h4⟩
        · intro b hb
          rcases List.mem_cons.1 hb with rfl | hb
          · exact hx
          · exact ⟨(h5 b hb).1, (h5 b hb).2.1, (h8 b hb).2⟩
abbrev En := ByteArray × Int × Int × List Int
def cbls (C : Con) : List Int := C.flatMap (·.2.2.2)
theorem mem_cbls {C : Con} {b : Int} : b ∈ cbls C ↔ ∃ e ∈ C, b ∈ e.2.2.2 := List.mem_flatMap
structure Good (C : Con) (ns : List Int) (k : Nat) : Prop where
  nms : (C.map (·.1)).Nodup
  slots : (C.map (·.2.1)).Nodup
  nm : ∀ e ∈ C, 1 ≤ e.1.size ∧ e.1.size ≤ 40
  sl : ∀ e ∈ C, 0 ≤ e.2.1 ∧ e.2.1 < 64
  sz : ∀ e ∈ C, 0 ≤ e.2.2.1
  need : ∀ e ∈ C, (e.2.2.2.length : Int) = need e.2.2.1
  bls : (cbls C).Nodup
  bd : ∀ b ∈ cbls C, 0 ≤ b ∧ b < (k : Int)
  len : ns.length = k
  k2 : k ≤ 2048
  lnk : ∀ e ∈ C, Lnk ns e.2.2.2
  free : ∀ i : Nat, i < k → (ns.getD i 0 = 0 ↔ (i : Int) ∉ cbls C)
def Told (bs : List Int) (e : En) : Prop := bs.getD 0 0 = (e.1.size : Int) ∧ nmB bs = e.1 ∧ szB bs = e.2.2.1 ∧ nx bs 48 = firstB e.2.2.2
structure OnDisk (ss : List Int) (wt : Wt) (C : Con) (ns : List Int) (k : Nat) : Prop where
  tab : ∀ i : Nat, i < k → nxt ss wt i = ns.getD i 0
  ent : ∀ j : Nat, j < 64 → (∃ e ∈ C, e.2.1 = (j : Int) ∧ Told (entB ss wt j) e) ∨ ((∀ e ∈ C, e.2.1 ≠ (j : Int)) ∧ (entB ss wt j).getD 0 0 = 0)
theorem nextL_is {ss : List Int} {wt : Wt} {ns : List Int} {k : Nat} (h : ∀ i : Nat, i < k → nxt ss wt i = ns.getD i 0) (hl : ns.length = k) : nextL ss wt k = ns := by
  apply List.ext_getElem?
  intro i
  unfold nextL
  by_cases hi : i < k
  · rw [List.getElem?_map, List.getElem?_range hi, Option.map_some, h i hi, List.getD_eq_getElem?_getD, List.getElem?_eq_getElem (by omega)]; rfl
  · rw [List.getElem?_eq_none (by simp; omega), List.getElem?_eq_none (by omega)]
theorem nextL_get {ss : List Int} {wt : Wt} {k i : Nat} (h : i < k) : (nextL ss wt k).getD i 0 = nxt ss wt i := by
  unfold nextL
  rw [List.getD_eq_getElem?_getD, List.getElem?_map, List.getElem?_range h]; rfl
theorem name_inj {C : Con} (h : (C.map (·.1)).Nodup) {x y : En} (hx : x ∈ C) (hy : y ∈ C) (e : x.1 = y.1) : x = y := by
  induction C with
  | nil => cases hx
  | cons f C ih =>
    rw [List.map_cons, List.nodup_cons] at h
    rcases List.mem_cons.1 hx with rfl | hx2 <;> rcases List.mem_cons.1 hy with rfl | hy2
    · rfl
    · exact absurd (List.mem_map.2 ⟨y, hy2, e.symm⟩) h.1
    · exact absurd (List.mem_map.2 ⟨x, hx2, e⟩ : y.1 ∈ C.map (·.1)) h.1
    · exact ih h.2 hx2 hy2
theorem slot_inj {C : Con} (h : (C.map (·.2.1)).Nodup) {x y : En} (hx : x ∈ C) (hy : y ∈ C) (e : x.2.1 = y.2.1) : x = y := by
  induction C with
  | nil => cases hx
  | cons f C ih =>
    rw [List.map_cons, List.nodup_cons] at h
    rcases List.mem_cons.1 hx with rfl | hx2 <;> rcases List.mem_cons.1 hy with rfl | hy2
    · rfl
    · exact absurd (List.mem_map.2 ⟨y, hy2, e.symm⟩) h.1
    · exact absurd (List.mem_map.2 ⟨x, hx2, e⟩ : y.2.1 ∈ C.map (·.2.1)) h.1
    · exact ih h.2 hx2 hy2
theorem chas_iff {C : Con} {k : ByteArray} : chas C k = true ↔ ∃ e ∈ C, e.1 = k := by
  unfold chas
  rw [List.any_eq_true]
  exact ⟨fun ⟨e, h, g⟩ => ⟨e, h, (of_decide_eq_true g).symm⟩, fun ⟨e, h, g⟩ => ⟨e, h, decide_eq_true g.symm⟩⟩
theorem chas_not {C : Con} {k : ByteArray} : chas C k = false ↔ ∀ e ∈ C, e.1 ≠ k := by
  rw [← Bool.not_eq_true, chas_iff]
  exact ⟨fun h e he g => h ⟨e, he, g⟩, fun h ⟨e, he, g⟩ => h e he g⟩
theorem nm_size {bs : List Int} (hb : In .u8 bs) (hl : bs.length = 64) (h : bs.getD 0 0 ≤ 40) : ((nmB bs).size : Int) = bs.getD 0 0 := by
  have h0 : 0 ≤ bs.getD 0 0 ∧ bs.getD 0 0 < 256 := hb.at_ 0
  rw [nmB, ← sb_len, sb_str ((hb.drop _).take _), List.length_take, List.length_drop, hl]
  omega
structure OI (ss : List Int) (wt : Wt) (ns : List Int) (i : Nat) (C : Con) (us : List Bool) : Prop where
  ul : us.length = ns.length
  nms : (C.map (·.1)).Nodup
  slots : (C.map (·.2.1)).Nodup
  nm : ∀ e ∈ C, 1 ≤ e.1.size ∧ e.1.size ≤ 40
  sl : ∀ e ∈ C, 0 ≤ e.2.1 ∧ e.2.1 < (i : Int)
  sz : ∀ e ∈ C, 0 ≤ e.2.2.1
  need : ∀ e ∈ C, (e.2.2.2.length : Int) = need e.2.2.1
  bls : (cbls C).Nodup
  bd : ∀ b ∈ cbls C, 0 ≤ b ∧ b < (ns.length : Int)
  lnk : ∀ e ∈ C, Lnk ns e.2.2.2
  us : ∀ j : Nat, j < ns.length → (us.getD j false = true ↔ (j : Int) ∈ cbls C)
  ent : ∀ j : Nat, j < i → (∃ e ∈ C, e.2.1 = (j : Int) ∧ Told (entB ss wt j) e) ∨ ((∀ e ∈ C, e.2.1 ≠ (j : Int)) ∧ (entB ss wt j).getD 0 0 = 0)
theorem cbls_snoc (C : Con) (e : En) : cbls (C ++ [e]) = cbls C ++ e.2.2.2 := by simp [cbls]
theorem OI.step {ss : List Int} {wt : Wt} {ns : List Int} {i : Nat} {C : Con} {us : List Bool} (h : OI ss wt ns i C us) (hb : In .u8 (entB ss wt i)) (hl : (entB ss wt i).length = 64) {C2 : Con} {us2 : List Bool}
    (he : (if (entB ss wt i).getD 0 0 = 0 then some (C, us) else if (slotC ns C us (entB ss wt i)).2.2.2.1 = true then some (C ++ [((slotC ns C us (entB ss wt i)).1, (i : Int), (slotC ns C us (entB ss wt i)).2.1, (slotC ns C us (entB ss wt i)).2.2.1)], (slotC ns C us (entB ss wt i)).2.2.2.2) else none) = some (C2, us2)) : OI ss wt ns (i + 1) C2 us2 := by
  generalize hbs : entB ss wt i = bs at *
  split at he
  · rename_i h0
    cases he
    refine { h with sl := fun e he => ⟨(h.sl e he).1, by have := (h.sl e he).2; omega⟩, ent := fun j hj => ?_ }
    by_cases hji : j = i
    · subst hji
      exact .inr ⟨fun e he => by have := (h.sl e he).2; omega, by rw [hbs]; exact h0⟩
    · exact h.ent j (by omega)
  · rename_i h0
    split at he
    · rename_i hs
      have hfree := slotC_free hs
      injection he with he
      obtain ⟨rfl, rfl⟩ := Prod.mk.inj he
      unfold slotC at hs hfree ⊢
      split at hs
      · cases hs
      · rename_i hg
        simp only [if_neg hg] at hfree ⊢
        have hc := (Bool.and_eq_true_iff.1 hs).1
        obtain ⟨bl, h1, h2, h3, h4, h5, h6, h7⟩ := chain_linked (zs := (chainP ns (I.need (szB bs)).toNat (nx bs 48) us []).1) (us2 := (chainP ns (I.need (szB bs)).toNat (nx bs 48) us []).2.2) h.ul (by rw [← hc])
        rw [List.nil_append] at h1
        rw [h1, h6]
        have hz : 0 ≤ szB bs := (leN_bd (hb.drop 44) 4).1
        have hn0 : 0 ≤ I.need (szB bs) := by unfold I.need; omega
        have hbd : ∀ b ∈ bl, 0 ≤ b ∧ b < (us.length : Int) := fun b hb => by have := h5 b hb; rw [h.ul]; exact ⟨this.1, this.2.1⟩
        have h40 : bs.getD 0 0 ≤ 40 := by omega
        have hb0 : 0 ≤ bs.getD 0 0 ∧ bs.getD 0 0 < 256 := hb.at_ 0
        have hsz := nm_size hb hl h40
        have app : ∀ {P : En → Prop}, (∀ e ∈ C, P e) → P (nmB bs, (i : Int), szB bs, bl) → ∀ e ∈ C ++ [(nmB bs, (i : Int), szB bs, bl)], P e := fun g1 g2 e he => by
          rcases List.mem_append.1 he with he | he
          · exact g1 e he
          · rw [List.mem_singleton.1 he]; exact g2
        have hdis : ∀ b ∈ bl, b ∉ cbls C := fun b hb hc => by
          have g := h5 b hb
          have g2 := (h.us b.toNat (by omega)).2 (by rw [Int.toNat_of_nonneg g.1]; exact hc)
          rw [g.2.2] at g2
          cases g2
        refine ⟨by rw [marks_len]; exact h.ul, ?_, ?_, app h.nm ⟨by simp only; omega, by simp only; omega⟩, app (fun e he => ⟨(h.sl e he).1, by have := (h.sl e he).2; omega⟩) ⟨by simp only; omega, by simp only; omega⟩, app h.sz hz, app h.need (by simp only; omega), ?_, ?_, app h.lnk h3, ?_, ?_⟩
        · rw [List.map_append, List.nodup_append]
          refine ⟨h.nms, by simp, fun a ha b hb => ?_⟩
          rw [List.map_singleton, List.mem_singleton] at hb
          obtain ⟨e, he, rfl⟩ := List.mem_map.1 ha
          rw [hb]
          exact chas_not.1 hfree e he
        · rw [List.map_append, List.nodup_append]
          refine ⟨h.slots, by simp, fun a ha b hb => ?_⟩
          rw [List.map_singleton, List.mem_singleton] at hb
          obtain ⟨e, he, rfl⟩ := List.mem_map.1 ha
          rw [hb]
          have := (h.sl e he).2
          simp only
          omega
        · rw [cbls_snoc, List.nodup_append]
          exact ⟨h.bls, h4, fun a ha b hb e => hdis b hb (e ▸ ha)⟩
        · intro b hb
          rw [cbls_snoc] at hb
          rcases List.mem_append.1 hb with hb | hb
          · exact h.bd b hb
          · exact ⟨(h5 b hb).1, (h5 b hb).2.1⟩
        · intro j hj
          rw [marks_get hbd, h.us j hj, cbls_snoc, List.mem_append]
        · intro j hj
          by_cases hji : j = i
          · subst hji
            exact .inl ⟨_, List.mem_append_right _ (List.mem_singleton.2 rfl), rfl, by rw [hbs]; exact ⟨hsz.symm, rfl, rfl, h2⟩⟩
          · rcases h.ent j (by omega) with ⟨e, he, g1, g2⟩ | ⟨g1, g2⟩
            · exact .inl ⟨e, List.mem_append_left _ he, g1, g2⟩
            · exact .inr ⟨app g1 (by simp only; omega), g2⟩
    · cases he
theorem OI.zero (ss : List Int) (wt : Wt) (ns : List Int) : OI ss wt ns 0 [] (List.replicate ns.length false) := by
  refine ⟨List.length_replicate, List.nodup_nil, List.nodup_nil, fun e h => (by cases h), fun e h => (by cases h), fun e h => (by cases h), fun e h => (by cases h), List.nodup_nil, fun e h => (by cases h), fun e h => (by cases h), fun j hj => ?_, fun j hj => absurd hj (Nat.not_lt_zero _)⟩
  rw [List.getD_eq_getElem?_getD, List.getElem?_replicate, if_pos hj]
  simp [cbls]
theorem openS_OI {ss : List Int} {wt : Wt} {ns : List Int} (hb : ∀ i : Nat, i < 64 → In .u8 (entB ss wt i) ∧ (entB ss wt i).length = 64) : ∀ {i : Nat} {C : Con} {us : List Bool}, i ≤ 64 → openS ss wt ns i = some (C, us) → OI ss wt ns i C us
  | 0, C, us, _, h => by cases h; exact OI.zero ss wt ns
  | i + 1, C, us, hi, h => by
    rw [openS] at h
    cases hp : openS ss wt ns i with
    | none => rw [hp] at h; cases h
    | some r =>
      obtain ⟨C0, u0⟩ := r
      rw [hp] at h
      exact (openS_OI hb (by omega) hp).step (hb i (by omega)).1 (hb i (by omega)).2 h
theorem open_good {ss : List Int} {wt : Wt} {n : Nat} {C : Con} (hb : ∀ i : Nat, i < 64 → In .u8 (entB ss wt i) ∧ (entB ss wt i).length = 64) (h : OpenOK ss wt n C) : Good C (nextL ss wt (datN n).toNat) (datN n).toNat ∧ OnDisk ss wt C (nextL ss wt (datN n).toNat) (datN n).toNat := by
  obtain ⟨us, h1, h2⟩ := h
  have h3 := openS_OI hb (Nat.le_refl _) h1
  have hl := nextL_len ss wt (datN n).toNat
  have hk := (datN_bd n).1
  refine ⟨⟨h3.nms, h3.slots, h3.nm, h3.sl, h3.sz, h3.need, h3.bls, fun b hb => by have := h3.bd b hb; omega, hl, by omega, h3.lnk, fun i hi => ?_⟩, ⟨fun i hi => (nextL_get hi).symm, h3.ent⟩⟩
  have h4 := h2 i hi
  have h5 := h3.us i (by omega)
  constructor
  · intro g hc
    exact (h4.2 (h5.2 hc)) g
  · intro g
    apply Decidable.byContradiction
    intro hn
    exact g (h5.1 (h4.1 hn))
theorem filter_lt {C : Con} (h : (C.map (·.2.1)).Nodup) {i : Nat} {e : En} (he : e ∈ C) (hi : e.2.1 = (i : Int)) : (C.filter fun x => decide (x.2.1 < ((i + 1 : Nat) : Int))).Perm (C.filter (fun x => decide (x.2.1 < (i : Int))) ++ [e]) := by
  have nd : ∀ {l : Con}, (l.map (·.2.1)).Nodup → l.Nodup := fun {l} hl => by
    induction l with
    | nil => exact List.nodup_nil
    | cons a l ih =>
      rw [List.map_cons, List.nodup_cons] at hl
      rw [List.nodup_cons]
      exact ⟨fun g => hl.1 (List.mem_map.2 ⟨a, g, rfl⟩), ih hl.2⟩
  have hC := nd h
  rw [List.perm_ext_iff_of_nodup (hC.sublist (List.filter_sublist ..))]
  · intro x
    rw [List.mem_filter, List.mem_append, List.mem_filter, List.mem_singleton]
    simp only [decide_eq_true_eq]
    constructor
    · rintro ⟨hx, hl⟩
      by_cases hxi : x.2.1 < (i : Int)
      · exact .inl ⟨hx, hxi⟩
      · exact .inr (slot_inj h hx he (by omega))
    · rintro (⟨hx, hl⟩ | rfl)
      · exact ⟨hx, by omega⟩
      · exact ⟨he, by omega⟩
  · rw [List.nodup_append]
    refine ⟨hC.sublist (List.filter_sublist ..), by simp, fun a ha b hb g => ?_⟩
    rw [List.mem_singleton.1 hb] at g
    have := (List.mem_filter.1 ha).2
    simp only [decide_eq_true_eq] at this
    rw [g] at this
    omega
theorem good_open {ss : List Int} {wt : Wt} {n : Nat} {C : Con} {ns : List Int} (hg : Good C ns (datN n).toNat) (hd : OnDisk ss wt C ns (datN n).toNat) : ∃ C2, OpenOK ss wt n C2 ∧ C2.Perm C := by
  have hns := nextL_is hd.tab hg.len
  have key : ∀ i, i ≤ 64 → ∃ C2 us, openS ss wt ns i = some (C2, us) ∧ C2.Perm (C.filter fun x => decide (x.2.1 < (i : Int))) ∧ us.length = ns.length ∧ ∀ j : Nat, j < ns.length → (us.getD j false = true ↔ (j : Int) ∈ cbls C2) := by
    intro i
    induction i with
    | zero =>
      intro _
      refine ⟨[], List.replicate ns.length false, rfl, ?_, List.length_replicate, (OI.zero ss wt ns).us⟩
      rw [List.filter_eq_nil_iff.2 (fun x hx => by have := (hg.sl x hx).1; simp; omega)]
    | succ i ih =>
      intro hi
      obtain ⟨C2, us, h1, h2, h3, h4⟩ := ih (by omega)
      rcases hd.ent i (by omega) with ⟨e, he, g1, g2⟩ | ⟨g1, g2⟩
      · obtain ⟨t1, t2, t3, t4⟩ := g2
        have hnm := hg.nm e he
        have hsz := hg.sz e he
        have hne := hg.need e he
        have hbe : ∀ b ∈ e.2.2.2, b ∈ cbls C := fun b hb => mem_cbls.2 ⟨e, he, hb⟩
        have hmem : ∀ x ∈ C2, x ∈ C ∧ x.2.1 < (i : Int) := fun x hx => by
          have := List.mem_filter.1 (h2.mem_iff.1 hx)
          exact ⟨this.1, of_decide_eq_true this.2⟩
        have hsub : e.2.2.2.Nodup := by
          have := hg.bls
          unfold cbls List.Nodup at this
          rw [List.pairwise_flatMap] at this
          exact this.1 e he
        have hperm : (C2 ++ [e]).Perm (C.filter fun x => decide (x.2.1 < ((i + 1 : Nat) : Int))) := (h2.append_right _).trans (filter_lt hg.slots he g1).symm
        have hnd : (cbls (C2 ++ [e])).Nodup := by
          have h5 : (cbls (C.filter fun x => decide (x.2.1 < ((i + 1 : Nat) : Int)))).Nodup := by
            have : ∀ (l : Con), (cbls l).Nodup → ∀ p : En → Bool, (cbls (l.filter p)).Nodup := fun l hl p => hl.sublist (by
              unfold cbls
              induction l with
              | nil => exact List.Sublist.refl _
              | cons a l ih =>
                have hl2 : (cbls l).Nodup := hl.sublist (List.sublist_append_right _ _)
                rw [List.filter_cons]
                split
                · rw [List.flatMap_cons, List.flatMap_cons]; exact List.Sublist.append (List.Sublist.refl _) (ih hl2)
                · rw [List.flatMap_cons]; exact (ih hl2).trans (List.sublist_append_right _ _))
            exact this C hg.bls _
          exact (hperm.flatMap_right _).nodup_iff.2 h5
        rw [cbls_snoc, List.nodup_append] at hnd
        have hus : ∀ b ∈ e.2.2.2, 0 ≤ b ∧ b < (ns.length : Int) ∧ us.getD b.toNat false = false := fun b hb => by
          have hbb := hg.bd b (hbe b hb)
          have hl := hg.len
          refine ⟨hbb.1, by omega, ?_⟩
          cases hu : us.getD b.toNat false with
          | false => rfl
          | true =>
            have := (h4 b.toNat (by omega)).1 hu
            rw [Int.toNat_of_nonneg hbb.1] at this
            exact absurd rfl (hnd.2.2 b this b hb)
        have hk := hg.k2
        have hcb := chain_follow (ns := ns) (by rw [hg.len]; exact hk) (us := us) (out := []) h3 (hg.lnk e he) hsub hus
        rw [List.nil_append] at hcb
        have hlen : (need e.2.2.1).toNat = e.2.2.2.length := by omega
        have hle : e.2.2.2.length ≤ 2048 := by
          have h6 : e.2.2.2.length ≤ (List.range (datN n).toNat).length := by
            have := nodup_le (es := e.2.2.2.map Int.toNat) (F := List.range (datN n).toNat) ?_ ?_
            · rwa [List.length_map] at this
            · rw [List.nodup_iff_pairwise_ne, List.pairwise_map]
              refine List.Pairwise.imp_of_mem (fun {a b} ha hb hab hc => ?_) hsub
              have h7 := hg.bd a (hbe a ha)
              have h8 := hg.bd b (hbe b hb)
              exact hab (by omega)
            · intro x hx
              obtain ⟨b, hb, rfl⟩ := List.mem_map.1 hx
              have h7 := hg.bd b (hbe b hb)
              exact List.mem_range.2 (by omega)
          rw [List.length_range] at h6
          omega
        have hbig : ¬ ((entB ss wt i).getD 0 0 > 40 ∨ szB (entB ss wt i) > 524288) := by
          rw [t1, t3]
          unfold I.need at hne
          omega
        have hsl : slotC ns C2 us (entB ss wt i) = (e.1, e.2.2.1, e.2.2.2, true, marks us e.2.2.2) := by
          unfold slotC
          rw [if_neg hbig, t2, t3, t4, hlen, hcb]
          simp only [Prod.mk.injEq, true_and, and_true, Bool.true_and, Bool.not_eq_true']
          refine chas_not.2 (fun x hx g => ?_)
          have h7 := hmem x hx
          have := name_inj hg.nms h7.1 he g
          rw [this] at h7
          omega
        refine ⟨C2 ++ [e], marks us e.2.2.2, ?_, hperm, by rw [marks_len]; exact h3, fun j hj => ?_⟩
        · rw [openS, h1]
          simp only
          rw [hsl, if_neg (by rw [t1]; omega), if_pos rfl]
          have : e = (e.1, (i : Int), e.2.2.1, e.2.2.2) := by rw [← g1]
          rw [← this]
        · rw [marks_get (fun b hb => by rw [h3]; exact ⟨(hus b hb).1, (hus b hb).2.1⟩), h4 j hj, cbls_snoc, List.mem_append]
      · refine ⟨C2, us, ?_, ?_, h3, h4⟩
        · rw [openS, h1]
          simp only
          rw [if_pos g2]
        · have : (C.filter fun x => decide (x.2.1 < ((i + 1 : Nat) : Int))) = C.filter fun x => decide (x.2.1 < (i : Int)) := List.filter_congr (fun x hx => by
            have := g1 x hx
            exact decide_eq_decide.2 ⟨fun h => by omega, fun h => by omega⟩)
          rw [this]
          exact h2
  obtain ⟨C2, us, h1, h2, h3, h4⟩ := key 64 (Nat.le_refl _)
  rw [List.filter_eq_self.2 (fun x hx => by have := (hg.sl x hx).2; simp; omega)] at h2
  refine ⟨C2, ⟨us, by rw [hns]; exact h1, fun i hi => ?_⟩, h2⟩
  have h5 := hg.free i hi
  have h6 := h4 i (by rw [hg.len]; exact hi)
  have h7 : (i : Int) ∈ cbls C2 ↔ (i : Int) ∈ cbls C := (h2.flatMap_right _).mem_iff
  rw [hns, h6, h7]
  exact ⟨fun g => Decidable.byContradiction fun hc => g (h5.2 hc), fun g e => h5.1 e g⟩
end Go.Proofs.Ytlibhidhfbecbaa.SL.I
