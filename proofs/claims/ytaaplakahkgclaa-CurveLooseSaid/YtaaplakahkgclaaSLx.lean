/- Ranges over functions: the iterator's contract, a round's walk, the statement. -/
import Derived.Test.YtaaplakahkgclaaSLw
import Derived.RangeFuncSeq
namespace Go.Proofs.Ytaaplakahkgclaa.SL
set_option linter.unusedVariables false
set_option linter.unusedSimpArgs false
open Go Go.RowKit

/-! ### Facts of other objects; facts in bundles -/
theorem sat_viewsR : ∀ {V : List Fact} {w : World} {O R : FP}, (∀ f ∈ V, f.own = false) → sat V w O R → sat V w O (fun b => R b ∧ b < w.heap.size)
  | [], _, _, _, _, _ => trivial
  | f :: V, w, O, R, hown, ⟨fp, hp, h⟩ => by
    have hf := hown f List.mem_cons_self
    rw [hf] at h
    refine ⟨fp, hp, ?_⟩
    rw [hf]
    exact ⟨fun b hb => ⟨h.1 b hb, f.bnd hp b hb⟩, sat_viewsR (fun g hg => hown g (List.mem_cons_of_mem _ hg)) h.2⟩

/-- Facts that can be read, as one. -/
def viewsF (V : List Fact) : Fact where
  own := false
  P w fp := sat V w (fun _ => False) fp ∧ ∀ b, fp b → b < w.heap.size
  loc := fun h hl => ⟨sat_loc h.1 (fun b hb' => hl b (hb'.resolve_left (fun h => h))), fun b hb' => by
    have h := h.2 b hb'
    have e := hl b hb'
    rw [Array.getElem?_eq_getElem h] at e
    exact (Array.getElem?_eq_some_iff.1 e).1⟩
  bnd := fun h => h.2

theorem Lend.views {D V : List Fact} (hV : ∀ f ∈ V, f.own = false) (h : Lend D V) {L : List Fact} (hL : Lend D L) : Lend D (viewsF V :: L) := fun w O R hs =>
  ⟨fun b => (O b ∨ R b) ∧ b < w.heap.size, ⟨sat_viewsR hV (h w O R hs), fun _ hb => hb.2⟩, fun _ hb => hb.1, hL w O R hs⟩

/-! ### yield -/
/-- What a call of yield comes to: a round. -/
def YieldS (P : Program) (l : Nat) (args : List Value) (D : List Fact) (Φ : Value → List Fact → Prop) : Prop :=
  ∀ w W, SAT w W D w → YieldAt Fence.wide 0 P l args.toArray w (fun e w' => ∃ r D', e = .returned r ∧ Φ r D' ∧ (∀ f ∈ D', f.own = true) ∧ SAT w W D' w')

section
variable {X : Cx} {K : Post} {ops : Array Oper} {t : Env} {D : List Fact} {i : Nat}

theorem RunR.yield {d : Option Nat} {c : Operand} {os_ : Array Operand} {ts : Array TypeId} (l : Nat) (vs : List Value) (ho : opInfo ops i t = some (d, .call { callee := .value c, args := os_, argTypes := ts })) (hc : ev t c = some (.func (.yield l) #[] #[])) (ha_ : os_.toList.mapM (ev t) = some vs)
    (hd : (d.map fun d => Nat.ble (d + 1) X.N).getD true = true) (C V E : List Fact) {Φ : Value → List Fact → Prop} (hY : YieldS X.P l vs (C ++ V) Φ) (ks : List Nat) (hD : pulls ks D = (C, E)) (hV : Lend E V)
    (k : ∀ r D', Φ r D' → RunR X K ops (i + 1) (putO t d r) (D' ++ E)) (hr : X.r = none := by rfl) : RunR X K ops i t D := by
  obtain ⟨o, hoi, hg, hdst, hop⟩ := opInfo_spec ho
  intro ρ a w ha hw
  rw [drop_cons hoi]
  unfold wpListIn
  rw [if_pos (gd_sound ha hg)]
  have hp := pulls_perm ks D
  rw [hD] at hp
  obtain ⟨O1, hpre, hpost⟩ := hw.call hp hV
  have hargs : os_.map a.eval = vs.toArray := by
    rw [← Array.toList_inj, Array.toList_map]
    exact eval_map ha ha_
  obtain ⟨fn, tmps, assign, body, hy, hround⟩ := hY w O1 hpre
  have hrun : (execOp a.eval o).run X.P w = .ok (.round l fn tmps assign body) w := by
    unfold execOp
    simp [hop, resolve, ha.ev hc, Deferred.ofValue, invoke, hargs, hy]
  refine ⟨about_any, ?_⟩
  rw [sem_of_run hrun (fun _ h => by cases h), Oper.uponIn_round]
  have hF : X.F = Fence.wide := by unfold Cx.F; rw [hr]; rfl
  refine ⟨fun h => by simp [Cx.F, Fence.wide] at h, ?_⟩
  have hround2 : RoundIn X.F (0 - 1) X.P l fn tmps assign body w (fun e w' => ∃ r D', e = .returned r ∧ Φ r D' ∧ (∀ f ∈ D', f.own = true) ∧ SAT w O1 D' w') := by rw [hF]; exact hround
  refine hround2.mono ?_
  rintro e w' ⟨r, D', rfl, hΦ, hown, hs⟩
  refine k r D' hΦ ρ _ _ ?_ (hpost D' w' hown hs)
  rw [hdst]
  exact ha.putO hd r
end
/-! ### The statement -/
theorem Lend.tail {f : Fact} {E V : List Fact} (h : Lend E V) : Lend (f :: E) V := fun w O R hs => by
  have h1 := h w _ _ (sat_tail hs)
  exact h1

section
variable {X : Cx} {K : Post} {t : Env} {D : List Fact}

end
section
variable {X : Cx} {K : Post} {t : Env} {D : List Fact} {α β : Type} {l : Nat} {R : LoopState → Option Code → Loop} {p : α → Prop} {L : α → List Fact} {c : Code} {q : β → Prop} {M : β → List Fact}
end
end Go.Proofs.Ytaaplakahkgclaa.SL
