/- A constant text's bytes: a row that was just laid is marked; it can still be read. -/
import Derived.Test.YtjhinpmnpdgadaaDoorSLp
namespace Go.Proofs.YtjhinpmnpdgadaaDoor.SL
set_option linter.unusedVariables false
set_option linter.unusedSimpArgs false
open Go

/-- The first fact, which is owned, becomes one that can be read only, in a world that differs in its blocks alone. -/
theorem SAT.thaw {w0 : World} {W : FP} {D : List Fact} {w w' : World} {f : Fact} (h : SAT w0 W (f :: D) w) (hf : f.own = true) (g : Fact) (hg : g.own = false)
    (hos : w'.os = w.os) (ht : w'.tape = w.tape) (hu : w'.output = w.output) (hsz : w'.heap.size = w.heap.size)
    (hP : ∀ fp, f.P w fp → (∀ b, ¬ fp b → w'.heap[b]? = w.heap[b]?) ∧ g.P w' fp) : SAT w0 W (g :: D) w' := by
  obtain ⟨fr, O, R, ⟨fp, hp, h1⟩, h2, h3, h4⟩ := h
  rw [hf] at h1
  obtain ⟨hb, hgP⟩ := hP fp hp
  refine ⟨⟨hos.trans fr.os, ht.trans fr.tape, hu.trans fr.output, by rw [hsz]; exact fr.size, fun b hlt hW => ?_⟩, fun b => O b ∧ ¬ fp b, fun b => R b ∨ fp b, ⟨fp, hgP, ?_⟩, ?_, fun b hb' => h3 b hb'.1, ?_⟩
  · refine (hb b (fun hfp => ?_)).trans (fr.block b hlt hW)
    rcases h3 b (h1.1 b hfp) with h | h
    · omega
    · exact hW h
  · rw [hg]
    refine ⟨fun b hb' => .inr hb', sat_mono (sat_loc h1.2 (fun b hb' => hb b (fun hfp => ?_))) (fun b hb' => hb') (fun b hb' => .inl hb')⟩
    rcases hb' with hb' | hb'
    · exact hb'.2 hfp
    · exact h2 b (h1.1 b hfp) hb'
  · rintro b ⟨ho, hn⟩ (hr | hr)
    · exact h2 b ho hr
    · exact hn hr
  · rintro b (hb' | hb' | hb')
    · rw [hsz]; exact h4 b (.inl hb'.1)
    · rw [hsz]; exact h4 b (.inr hb')
    · rw [hsz]; exact h4 b (.inl (h1.1 b hb'))

section
variable {X : Cx} {U : Tab} (hU : U.OK X.P) {t : Env} {D : List Fact} {φ : Env → List Fact → Prop}
include hU
theorem Step.mark_bytes {d : Nat} {ty : TypeId} {x : Operand} (e k0 n cap : Nat) (b : Nat) (xs : List Int) (hty : look U.und ty = some (.slice e)) (he : look U.und e = some (.int .u8)) (hx : ev t x = some (.slice (some ⟨b, 0, none⟩) n cap))
    (hD : D[k0]? = some (row e 1 (.slice (some ⟨b, 0, none⟩) n cap) n (nums .u8 xs))) (hn : 0 < n) (hd : Nat.ble (d + 1) X.N = true)
    (k : φ (put t d (.slice (some ⟨b, 0, none⟩) n cap)) (vw (some ⟨b, 0, none⟩) (nums .u8 xs) :: D.eraseIdx k0)) : Step X (some d) (.convert ty ty x) t D φ := by
  intro o hdst hop ρ a w ha hw Q K hK
  have hw' := hw.pull hD
  obtain ⟨b', cap', ex, hv, hnc, hcm, hex, hw2⟩ := row_open hw' hn
  injection hv with hA _ hcap
  cases hA
  subst hcap
  obtain ⟨fp, hh, hfp⟩ := hw2.head
  have hlt : b < w.heap.size := (Array.getElem?_eq_some_iff.1 hh).1
  have hsh : w.shape? b = some (e, (nums .u8 xs ++ ex).toArray.size) := by
    unfold World.shape?
    rw [hh]
  have hnew : (w.freeze ⟨b, (nums .u8 xs ++ ex).toArray.size, none⟩ 1).heap[b]? = some (.cells (nums .u8 xs ++ ex).toArray e ((nums .u8 xs ++ ex).toArray.size, (nums .u8 xs ++ ex).toArray.size + 1)) := by
    unfold World.freeze
    rw [if_neg (by decide)]
    simp only [Array.getElem?_modify, if_true, hh, Option.map_some]
    rfl
  have hold : ∀ c, c ≠ b → (w.freeze ⟨b, (nums .u8 xs ++ ex).toArray.size, none⟩ 1).heap[c]? = w.heap[c]? := fun c hc => by
    unfold World.freeze
    rw [if_neg (by decide)]
    simp only [Array.getElem?_modify, if_neg (Ne.symm hc)]
  have hsz : (w.freeze ⟨b, (nums .u8 xs ++ ex).toArray.size, none⟩ 1).heap.size = w.heap.size := by
    unfold World.freeze
    rw [if_neg (by decide)]
    simp
  have hr : (execOp a.eval o).run X.P w = .ok (.value (.slice (some ⟨b, 0, none⟩) n cap)) (w.freeze ⟨b, (nums .u8 xs ++ ex).toArray.size, none⟩ 1) := by
    unfold execOp
    simp only [hop, ha.ev hx]
    simp [convert, hU.run_und hty, hU.run_und he, markStringish, hsh]
  have hs : SAT ρ.w0 ρ.W (vw (some ⟨b, 0, none⟩) (nums .u8 xs) :: D.eraseIdx k0) (w.freeze ⟨b, (nums .u8 xs ++ ex).toArray.size, none⟩ 1) := by
    refine hw2.thaw rfl _ rfl (by unfold World.freeze; rw [if_neg (by decide)]) (by unfold World.freeze; rw [if_neg (by decide)]) (by unfold World.freeze; rw [if_neg (by decide)]) hsz (fun fp hp => ⟨fun c hc => hold c (fun e => hc ((hp.2 c).2 e)), ⟨fun x hx => ?_, fun _ => ⟨_, rfl, (hp.2 b).2 rfl, fun j v hj => ?_⟩⟩⟩)
    · rw [(hp.2 x).1 hx, hsz]; exact hlt
    · rw [Addr.add_mid, Nat.zero_add]
      have hj2 : (nums .u8 xs ++ ex)[j]? = some v := by rw [List.getElem?_append_left (List.getElem?_eq_some_iff.1 hj).1]; exact hj
      simp only [World.cell?, hnew]
      simpa using hj2
  refine wp_val hr (hK _ _ _ _ ?_ hs k)
  rw [hdst]
  exact ha.put (Nat.le_of_ble_eq_true hd) _
end
end Go.Proofs.YtjhinpmnpdgadaaDoor.SL
