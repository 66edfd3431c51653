/- A small symbolic calculus over the walk's wp: facts on memory with footprints, kept in a list. -/
import Derived.Deep.MidRow
import Derived.Laws.AppendOwn
import Derived.Laws.OwnMore
import Derived.Laws.MakeOwn
import Derived.ArgAppend
import Derived.RowKit3
import Derived.KernelRfl
import Derived.Below
import Derived.Tactics
namespace Go.Proofs.Ytlibhidhfbecbaa.SL
set_option linter.unusedVariables false
set_option linter.unusedSimpArgs false
open Go

abbrev FP := Nat → Prop

structure Fact where
  own : Bool
  P : World → FP → Prop
  loc : ∀ {w w' : World} {fp : FP}, P w fp → (∀ b, fp b → w'.heap[b]? = w.heap[b]?) → P w' fp
  bnd : ∀ {w : World} {fp : FP}, P w fp → ∀ b, fp b → b < w.heap.size

def sat : List Fact → World → FP → FP → Prop
  | [], _, _, _ => True
  | f :: D, w, O, R => ∃ fp, f.P w fp ∧ (match f.own with
    | true => (∀ b, fp b → O b) ∧ sat D w (fun b => O b ∧ ¬ fp b) R
    | false => (∀ b, fp b → R b) ∧ sat D w O R)

theorem sat_mono : ∀ {D : List Fact} {w : World} {O O' R R' : FP}, sat D w O R → (∀ b, O b → O' b) → (∀ b, R b → R' b) → sat D w O' R'
  | [], _, _, _, _, _, _, _, _ => trivial
  | f :: D, w, O, O', R, R', h, ho, hr => by
    obtain ⟨fp, hp, h⟩ := h
    refine ⟨fp, hp, ?_⟩
    cases hf : f.own with
    | true => rw [hf] at h; exact ⟨fun b hb => ho b (h.1 b hb), sat_mono h.2 (fun b hb => ⟨ho b hb.1, hb.2⟩) hr⟩
    | false => rw [hf] at h; exact ⟨fun b hb => hr b (h.1 b hb), sat_mono h.2 ho hr⟩

theorem sat_loc : ∀ {D : List Fact} {w w' : World} {O R : FP}, sat D w O R → (∀ b, O b ∨ R b → w'.heap[b]? = w.heap[b]?) → sat D w' O R
  | [], _, _, _, _, _, _ => trivial
  | f :: D, w, w', O, R, h, hl => by
    obtain ⟨fp, hp, h⟩ := h
    cases hf : f.own with
    | true =>
      rw [hf] at h
      refine ⟨fp, f.loc hp (fun b hb => hl b (.inl (h.1 b hb))), ?_⟩
      rw [hf]
      exact ⟨h.1, sat_loc h.2 (fun b hb => hl b (hb.imp (·.1) id))⟩
    | false =>
      rw [hf] at h
      refine ⟨fp, f.loc hp (fun b hb => hl b (.inr (h.1 b hb))), ?_⟩
      rw [hf]
      exact ⟨h.1, sat_loc h.2 hl⟩

theorem sat_tail {f : Fact} {D : List Fact} {w : World} {O R : FP} (h : sat (f :: D) w O R) : sat D w O R := by
  obtain ⟨fp, hp, h⟩ := h
  cases hf : f.own with
  | true => rw [hf] at h; exact sat_mono h.2 (fun _ hb => hb.1) (fun _ hb => hb)
  | false => rw [hf] at h; exact h.2

theorem sat_swap {f g : Fact} {D : List Fact} {w : World} {O R : FP} (h : sat (f :: g :: D) w O R) : sat (g :: f :: D) w O R := by
  obtain ⟨fp, hp, h⟩ := h
  cases hf : f.own with
  | true =>
    rw [hf] at h
    obtain ⟨ho, gp, hg, h⟩ := h
    refine ⟨gp, hg, ?_⟩
    cases hgo : g.own with
    | true =>
      rw [hgo] at h
      refine ⟨fun b hb => (h.1 b hb).1, fp, hp, ?_⟩
      rw [hf]
      exact ⟨fun b hb => ⟨ho b hb, fun hgb => (h.1 b hgb).2 hb⟩, sat_mono h.2 (fun b hb => ⟨⟨hb.1.1, hb.2⟩, hb.1.2⟩) (fun _ hb => hb)⟩
    | false =>
      rw [hgo] at h
      refine ⟨h.1, fp, hp, ?_⟩
      rw [hf]
      exact ⟨ho, h.2⟩
  | false =>
    rw [hf] at h
    obtain ⟨ho, gp, hg, h⟩ := h
    refine ⟨gp, hg, ?_⟩
    cases hgo : g.own with
    | true =>
      rw [hgo] at h
      refine ⟨h.1, fp, hp, ?_⟩
      rw [hf]
      exact ⟨ho, h.2⟩
    | false =>
      rw [hgo] at h
      refine ⟨h.1, fp, hp, ?_⟩
      rw [hf]
      exact ⟨ho, h.2⟩

theorem sat_cons_imp {f : Fact} {D D' : List Fact} {w : World} {O R : FP} (hi : ∀ O R, sat D w O R → sat D' w O R) (h : sat (f :: D) w O R) : sat (f :: D') w O R := by
  obtain ⟨fp, hp, h⟩ := h
  refine ⟨fp, hp, ?_⟩
  cases hf : f.own with
  | true => rw [hf] at h; exact ⟨h.1, hi _ _ h.2⟩
  | false => rw [hf] at h; exact ⟨h.1, hi _ _ h.2⟩

theorem sat_perm {D D' : List Fact} (hp : D.Perm D') {w : World} : ∀ {O R : FP}, sat D w O R → sat D' w O R := by
  induction hp with
  | nil => exact fun h => h
  | cons f _ ih => exact fun h => sat_cons_imp (fun _ _ => ih) h
  | swap f g D => exact sat_swap
  | trans _ _ ih1 ih2 => exact fun h => ih2 (ih1 h)

theorem sat_append : ∀ {D E : List Fact} {w : World} {O R : FP}, sat (D ++ E) w O R → ∃ O1 : FP, (∀ b, O1 b → O b) ∧ sat D w O1 R ∧ sat E w (fun b => O b ∧ ¬ O1 b) R
  | [], E, w, O, R, h => ⟨fun _ => False, fun _ hb => hb.elim, trivial, sat_mono h (fun _ hb => ⟨hb, fun h => h⟩) (fun _ hb => hb)⟩
  | f :: D, E, w, O, R, h => by
    obtain ⟨fp, hp, h⟩ := h
    cases hf : f.own with
    | true =>
      rw [hf] at h
      obtain ⟨O1, h1, h2, h3⟩ := sat_append h.2
      refine ⟨fun b => fp b ∨ O1 b, fun b hb => hb.elim (h.1 b) (fun hb => (h1 b hb).1), ⟨fp, hp, ?_⟩, sat_mono h3 (fun b hb => ⟨hb.1.1, fun hq => hq.elim hb.1.2 hb.2⟩) (fun _ hb => hb)⟩
      rw [hf]
      exact ⟨fun b hb => .inl hb, sat_mono h2 (fun b hb => ⟨.inr hb, (h1 b hb).2⟩) (fun _ hb => hb)⟩
    | false =>
      rw [hf] at h
      obtain ⟨O1, h1, h2, h3⟩ := sat_append h.2
      refine ⟨O1, h1, ⟨fp, hp, ?_⟩, h3⟩
      rw [hf]
      exact ⟨h.1, h2⟩

theorem sat_join : ∀ {D E : List Fact} {w : World} {O1 O2 R : FP}, sat D w O1 R → sat E w O2 R → (∀ b, O1 b → ¬ O2 b) → sat (D ++ E) w (fun b => O1 b ∨ O2 b) R
  | [], E, w, O1, O2, R, _, h, _ => sat_mono h (fun _ hb => .inr hb) (fun _ hb => hb)
  | f :: D, E, w, O1, O2, R, h, h2, hd => by
    obtain ⟨fp, hp, h⟩ := h
    refine ⟨fp, hp, ?_⟩
    cases hf : f.own with
    | true =>
      rw [hf] at h
      refine ⟨fun b hb => .inl (h.1 b hb), ?_⟩
      exact sat_mono (sat_join h.2 h2 (fun b hb => hd b hb.1)) (fun b hb => hb.elim (fun hb => ⟨.inl hb.1, hb.2⟩) (fun hb => ⟨.inr hb, fun hfp => hd b (h.1 b hfp) hb⟩)) (fun _ hb => hb)
    | false =>
      rw [hf] at h
      exact ⟨h.1, sat_join h.2 h2 hd⟩

structure Frame (w0 : World) (W : FP) (w : World) : Prop where
  os : w.os = w0.os
  tape : w.tape = w0.tape
  output : w.output = w0.output
  size : w0.heap.size ≤ w.heap.size
  block : ∀ b, b < w0.heap.size → ¬ W b → w.heap[b]? = w0.heap[b]?

theorem Frame.refl (w : World) (W : FP) : Frame w W w := ⟨rfl, rfl, rfl, Nat.le_refl _, fun _ _ _ => rfl⟩

structure SAT (w0 : World) (W : FP) (D : List Fact) (w : World) : Prop where
  fr : Frame w0 W w
  ex : ∃ O R : FP, sat D w O R ∧ (∀ b, O b → ¬ R b) ∧ (∀ b, O b → w0.heap.size ≤ b ∨ W b) ∧ (∀ b, O b ∨ R b → b < w.heap.size)

theorem SAT.perm {w0 : World} {W : FP} {D D' : List Fact} {w : World} (h : SAT w0 W D w) (hp : D.Perm D') : SAT w0 W D' w := by
  obtain ⟨fr, O, R, h1, h2⟩ := h
  exact ⟨fr, O, R, sat_perm hp h1, h2⟩

theorem SAT.tail {w0 : World} {W : FP} {f : Fact} {D : List Fact} {w : World} (h : SAT w0 W (f :: D) w) : SAT w0 W D w := by
  obtain ⟨fr, O, R, h1, h2⟩ := h
  exact ⟨fr, O, R, sat_tail h1, h2⟩

theorem SAT.same {w0 : World} {W : FP} {D : List Fact} {w w' : World} (h : SAT w0 W D w) (ho : w'.os = w.os) (ht : w'.tape = w.tape) (hu : w'.output = w.output) (hh : w'.heap = w.heap) : SAT w0 W D w' := by
  obtain ⟨fr, O, R, h1, h2, h3, h4⟩ := h
  refine ⟨⟨ho.trans fr.os, ht.trans fr.tape, hu.trans fr.output, by rw [hh]; exact fr.size, fun b hb hW => by rw [hh]; exact fr.block b hb hW⟩, O, R, sat_loc h1 (fun b _ => by rw [hh]), h2, h3, fun b hb => by rw [hh]; exact h4 b hb⟩

theorem SAT.drew {w0 : World} {W : FP} {D : List Fact} {w : World} (h : SAT w0 W D w) : SAT w0 W D w.drew := h.same rfl rfl rfl rfl

theorem SAT.alloc {w0 : World} {W : FP} {D : List Fact} {w : World} (h : SAT w0 W D w) (o : Obj) (f : Fact) (hf : f.own = true)
    (hP : f.P (w.alloc o) (fun b => b = w.heap.size)) : SAT w0 W (f :: D) (w.alloc o) := by
  obtain ⟨fr, O, R, h1, h2, h3, h4⟩ := h
  have hs : (w.alloc o).heap.size = w.heap.size + 1 := by simp
  have hold : ∀ b, b < w.heap.size → (w.alloc o).heap[b]? = w.heap[b]? := fun b hb => heap_alloc_old w o b hb
  refine ⟨⟨fr.os, fr.tape, fr.output, by rw [hs]; have := fr.size; omega, fun b hb hW => (hold b (by have := fr.size; omega)).trans (fr.block b hb hW)⟩, fun b => O b ∨ b = w.heap.size, R, ⟨_, hP, ?_⟩, ?_, ?_, ?_⟩
  · rw [hf]
    exact ⟨fun b hb => .inr hb, sat_loc (sat_mono h1 (fun b hb => ⟨.inl hb, fun e => by have := h4 b (.inl hb); omega⟩) (fun _ hb => hb)) (fun b hb => hold b (by
      rcases hb with ⟨hb | hb, hn⟩ | hb
      · exact h4 b (.inl hb)
      · exact absurd hb hn
      · exact h4 b (.inr hb)))⟩
  · rintro b (hb | rfl)
    · exact h2 b hb
    · intro hr; have := h4 _ (.inr hr); omega
  · rintro b (hb | rfl)
    · exact h3 b hb
    · exact .inl fr.size
  · rintro b ((hb | rfl) | hb)
    · have := h4 b (.inl hb); omega
    · omega
    · have := h4 b (.inr hb); omega

theorem SAT.change {w0 : World} {W : FP} {D : List Fact} {w w' : World} {f : Fact} (h : SAT w0 W (f :: D) w) (hf : f.own = true) (g : Fact) (hg : g.own = true)
    (hos : w'.os = w.os) (ht : w'.tape = w.tape) (hu : w'.output = w.output) (hsz : w'.heap.size = w.heap.size)
    (hP : ∀ fp, f.P w fp → (∀ b, ¬ fp b → w'.heap[b]? = w.heap[b]?) ∧ g.P w' fp) : SAT w0 W (g :: D) w' := by
  obtain ⟨fr, O, R, ⟨fp, hp, h1⟩, h2, h3, h4⟩ := h
  rw [hf] at h1
  obtain ⟨hb, hgP⟩ := hP fp hp
  refine ⟨⟨hos.trans fr.os, ht.trans fr.tape, hu.trans fr.output, by rw [hsz]; exact fr.size, fun b hlt hW => ?_⟩, O, R, ⟨fp, hgP, ?_⟩, h2, h3, fun b hb => by rw [hsz]; exact h4 b hb⟩
  · refine (hb b (fun hfp => ?_)).trans (fr.block b hlt hW)
    rcases h3 b (h1.1 b hfp) with h | h
    · omega
    · exact hW h
  · rw [hg]
    refine ⟨h1.1, sat_loc h1.2 (fun b hb' => hb b (fun hfp => ?_))⟩
    rcases hb' with hb' | hb'
    · exact hb'.2 hfp
    · exact h2 b (h1.1 b hfp) hb'

theorem SAT.turn {w0 : World} {W : FP} {D : List Fact} {w : World} {f : Fact} (h : SAT w0 W (f :: D) w) (g : Fact) (hg : g.own = f.own) (hP : ∀ fp, f.P w fp → g.P w fp) : SAT w0 W (g :: D) w := by
  obtain ⟨fr, O, R, ⟨fp, hp, h1⟩, h2⟩ := h
  exact ⟨fr, O, R, ⟨fp, hP fp hp, by rw [hg]; exact h1⟩, h2⟩

theorem SAT.head {w0 : World} {W : FP} {D : List Fact} {w : World} {f : Fact} (h : SAT w0 W (f :: D) w) : ∃ fp, f.P w fp := by
  obtain ⟨_, _, _, ⟨fp, hp, _⟩, _⟩ := h
  exact ⟨fp, hp⟩

theorem SAT.mem {w0 : World} {W : FP} {D : List Fact} {w : World} {f : Fact} (h : SAT w0 W D w) (hf : f ∈ D) : ∃ fp, f.P w fp := by
  obtain ⟨s, t, rfl⟩ := List.append_of_mem hf
  exact (h.perm List.perm_middle).head

theorem SAT.get {w0 : World} {W : FP} {D : List Fact} {w : World} {f : Fact} (h : SAT w0 W D w) (k : Nat) (hf : D[k]? = some f) : ∃ fp, f.P w fp :=
  h.mem (List.mem_of_getElem? hf)

def Lend (D V : List Fact) : Prop := ∀ w O R, sat D w O R → sat V w (fun _ => False) (fun b => O b ∨ R b)

theorem Lend.nil (D : List Fact) : Lend D [] := fun _ _ _ _ => trivial

theorem sat_of_mem {f : Fact} : ∀ {D : List Fact} {w : World} {O R : FP}, f ∈ D → sat D w O R → ∃ fp, f.P w fp ∧ (∀ b, fp b → O b ∨ R b)
  | [], _, _, _, h, _ => by cases h
  | g :: D, w, O, R, hm, h => by
    obtain ⟨fp, hp, h⟩ := h
    rcases List.mem_cons.1 hm with rfl | hm
    · cases hf : f.own with
      | true => rw [hf] at h; exact ⟨fp, hp, fun b hb => .inl (h.1 b hb)⟩
      | false => rw [hf] at h; exact ⟨fp, hp, fun b hb => .inr (h.1 b hb)⟩
    · cases hg : g.own with
      | true =>
        rw [hg] at h
        obtain ⟨q, h1, h2⟩ := sat_of_mem hm h.2
        exact ⟨q, h1, fun b hb => (h2 b hb).imp (·.1) id⟩
      | false => rw [hg] at h; exact sat_of_mem hm h.2

theorem Lend.cons {D V : List Fact} (h : Lend D V) (k : Nat) (f g : Fact) (hf : D[k]? = some f) (hg : g.own = false) (hi : ∀ w fp, f.P w fp → ∃ q : FP, (∀ b, q b → fp b) ∧ g.P w q) : Lend D (g :: V) := by
  intro w O R hs
  obtain ⟨fp, hp, hb⟩ := sat_of_mem (List.mem_of_getElem? hf) hs
  obtain ⟨q, hq, hgP⟩ := hi w fp hp
  refine ⟨q, hgP, ?_⟩
  rw [hg]
  exact ⟨fun b h => hb b (hq b h), h w O R hs⟩

theorem Lend.same {D V : List Fact} (h : Lend D V) (k : Nat) (f : Fact) (hf : D[k]? = some f) (hg : f.own = false) : Lend D (f :: V) :=
  h.cons k f f hf hg (fun _ fp hp => ⟨fp, fun _ hb => hb, hp⟩)

theorem SAT.call {w0 : World} {W : FP} {D C E V : List Fact} {w : World} (h : SAT w0 W D w) (hp : D.Perm (C ++ E)) (hl : Lend E V) :
    ∃ O1 : FP, SAT w O1 (C ++ V) w ∧ ∀ D' w', (∀ f ∈ D', f.own = true) → SAT w O1 D' w' → SAT w0 W (D' ++ E) w' := by
  obtain ⟨fr, O, R, h1, h2, h3, h4⟩ := h
  obtain ⟨O1, ho, hC, hE⟩ := sat_append (sat_perm hp h1)
  have hV := hl w _ _ hE
  refine ⟨O1, ⟨Frame.refl _ _, O1, fun b => (O b ∧ ¬ O1 b) ∨ R b, ?_, ?_, fun b hb => .inr hb, ?_⟩, ?_⟩
  · have := sat_join (sat_mono hC (R' := fun b => (O b ∧ ¬ O1 b) ∨ R b) (fun _ hb => hb) (fun _ hb => .inr hb)) hV (fun _ _ h => h)
    exact sat_mono this (fun b hb => hb.elim id False.elim) (fun _ hb => hb)
  · rintro b hb (⟨_, hn⟩ | hr)
    · exact hn hb
    · exact h2 b (ho b hb) hr
  · rintro b (hb | ⟨hb, _⟩ | hb)
    · exact h4 b (.inl (ho b hb))
    · exact h4 b (.inl hb)
    · exact h4 b (.inr hb)
  · rintro D' w' hown ⟨fr', O', R', h1', h2', h3', h4'⟩
    have hD' : sat D' w' O' R := by
      clear h2' h4' hl hV
      have : ∀ (L : List Fact) (O' : FP), (∀ f ∈ L, f.own = true) → sat L w' O' R' → sat L w' O' R := by
        intro L
        induction L with
        | nil => exact fun _ _ _ => trivial
        | cons f L ih =>
          rintro O' hown ⟨fp, hp, h⟩
          have hf := hown f List.mem_cons_self
          rw [hf] at h
          refine ⟨fp, hp, ?_⟩
          rw [hf]
          exact ⟨h.1, ih _ (fun g hg => hown g (List.mem_cons_of_mem _ hg)) h.2⟩
      exact this D' O' hown h1'
    have hE' : sat E w' (fun b => O b ∧ ¬ O1 b) R := sat_loc hE (fun b hb => by
      rcases hb with ⟨hb, hn⟩ | hb
      · exact fr'.block b (h4 b (.inl hb)) hn
      · exact fr'.block b (h4 b (.inr hb)) (fun h => h2 b (ho b h) hb))
    refine ⟨⟨fr'.os.trans fr.os, fr'.tape.trans fr.tape, fr'.output.trans fr.output, Nat.le_trans fr.size fr'.size, fun b hb hW => ?_⟩, _, R, sat_join hD' hE' ?_, ?_, ?_, ?_⟩
    · refine (fr'.block b (by have := fr.size; omega) (fun h => ?_)).trans (fr.block b hb hW)
      rcases h3 b (ho b h) with h | h
      · omega
      · exact hW h
    · rintro b hb ⟨hO, hn⟩
      rcases h3' b hb with h | h
      · have := h4 b (.inl hO); omega
      · exact hn h
    · rintro b (hb | hb) hr
      · rcases h3' b hb with h | h
        · have := h4 b (.inr hr); omega
        · exact h2 b (ho b h) hr
      · exact h2 b hb.1 hr
    · rintro b (hb | hb)
      · rcases h3' b hb with h | h
        · left; have := fr.size; omega
        · exact h3 b (ho b h)
      · exact h3 b hb.1
    · rintro b ((hb | hb) | hb)
      · exact h4' b (.inl hb)
      · have := h4 b (.inl hb.1); have := fr'.size; omega
      · have := h4 b (.inr hb); have := fr'.size; omega

end Go.Proofs.Ytlibhidhfbecbaa.SL
