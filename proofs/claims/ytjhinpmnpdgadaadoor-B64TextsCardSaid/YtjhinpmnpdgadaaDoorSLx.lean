/- Ranges over functions: the iterator's contract, a round's walk, the statement. -/
import Derived.Test.YtjhinpmnpdgadaaDoorSLw
import Derived.RangeFuncSeq
namespace Go.Proofs.YtjhinpmnpdgadaaDoor.SL
set_option linter.unusedVariables false
set_option linter.unusedSimpArgs false
open Go Go.RowKit

/-! ### Facts of other objects; facts in bundles -/
/-- A block that is this object. -/
def objF (b : Nat) (o : Obj) : Fact where
  own := true
  P w fp := w.heap[b]? = some o ∧ ∀ x, fp x ↔ x = b
  loc := fun h hl => ⟨(hl b ((h.2 b).2 rfl)).trans h.1, h.2⟩
  bnd := fun h x hx => by
    rw [(h.2 x).1 hx]
    exact (Array.getElem?_eq_some_iff.1 h.1).1

theorem sat_noR : ∀ {L : List Fact} {w : World} {O R : FP}, (∀ f ∈ L, f.own = true) → sat L w O R → sat L w O (fun _ => False)
  | [], _, _, _, _, _ => trivial
  | f :: L, w, O, R, hown, ⟨fp, hp, h⟩ => by
    have hf := hown f List.mem_cons_self
    rw [hf] at h
    refine ⟨fp, hp, ?_⟩
    rw [hf]
    exact ⟨h.1, sat_noR (fun g hg => hown g (List.mem_cons_of_mem _ hg)) h.2⟩

/-- Owned facts, of some x that meets p, as one. -/
def exF {α : Type} (p : α → Prop) (L : α → List Fact) : Fact where
  own := true
  P w fp := ∃ x, p x ∧ sat (L x) w fp (fun _ => False) ∧ ∀ b, fp b → b < w.heap.size
  loc := fun ⟨x, hp, hs, hb⟩ hl => ⟨x, hp, sat_loc hs (fun b hb' => hl b (hb'.resolve_right (fun h => h))), fun b hb' => by
    have h := hb b hb'
    have e := hl b hb'
    rw [Array.getElem?_eq_getElem h] at e
    exact (Array.getElem?_eq_some_iff.1 e).1⟩
  bnd := fun ⟨x, hp, hs, hb⟩ => hb

theorem exF_open {α : Type} {p : α → Prop} {L : α → List Fact} {D : List Fact} {w0 : World} {W : FP} {w : World} (h : SAT w0 W (exF p L :: D) w) : ∃ x, p x ∧ SAT w0 W (L x ++ D) w := by
  obtain ⟨fr, O, R, ⟨fp, ⟨x, hp, hs, hb⟩, h1⟩, h2, h3, h4⟩ := h
  have h1 : (∀ b, fp b → O b) ∧ sat D w (fun b => O b ∧ ¬ fp b) R := h1
  refine ⟨x, hp, fr, O, R, ?_, h2, h3, h4⟩
  have hj := sat_join (sat_mono hs (fun _ h => h) (R' := R) (fun _ h => h.elim)) h1.2 (fun b hb hn => hn.2 hb)
  exact sat_mono hj (fun b hb => hb.elim (h1.1 b) (·.1)) (fun _ h => h)

theorem exF_close {α : Type} {p : α → Prop} {L : α → List Fact} {D : List Fact} {w0 : World} {W : FP} {w : World} (x : α) (hp : p x) (ho : ∀ f ∈ L x, f.own = true) (h : SAT w0 W (L x ++ D) w) : SAT w0 W (exF p L :: D) w := by
  obtain ⟨fr, O, R, h1, h2, h3, h4⟩ := h
  obtain ⟨O1, g1, g2, g3⟩ := sat_append h1
  exact ⟨fr, O, R, ⟨O1, ⟨x, hp, sat_noR ho g2, fun b hb => h4 b (.inl (g1 b hb))⟩, g1, g3⟩, h2, h3, h4⟩

theorem sat_viewsR : ∀ {V : List Fact} {w : World} {O R : FP}, (∀ f ∈ V, f.own = false) → sat V w O R → sat V w O (fun b => R b ∧ b < w.heap.size)
  | [], _, _, _, _, _ => trivial
  | f :: V, w, O, R, hown, ⟨fp, hp, h⟩ => by
    have hf := hown f List.mem_cons_self
    rw [hf] at h
    refine ⟨fp, hp, ?_⟩
    rw [hf]
    exact ⟨fun b hb => ⟨h.1 b hb, f.bnd hp b hb⟩, sat_viewsR (fun g hg => hown g (List.mem_cons_of_mem _ hg)) h.2⟩

/-- Facts that can be read, as one. -/
def viewsF (V : List Fact) : Fact where
  own := false
  P w fp := sat V w (fun _ => False) fp ∧ ∀ b, fp b → b < w.heap.size
  loc := fun h hl => ⟨sat_loc h.1 (fun b hb' => hl b (hb'.resolve_left (fun h => h))), fun b hb' => by
    have h := h.2 b hb'
    have e := hl b hb'
    rw [Array.getElem?_eq_getElem h] at e
    exact (Array.getElem?_eq_some_iff.1 e).1⟩
  bnd := fun h => h.2

theorem sat_nil_append {V D : List Fact} {w : World} {O R : FP} (hV : ∀ f ∈ V, f.own = false) (h : sat V w (fun _ => False) R) (hD : sat D w O R) : sat (V ++ D) w O R :=
  sat_mono (sat_join h hD (fun _ h => h.elim)) (fun _ hb => hb.elim False.elim id) (fun _ h => h)

theorem viewsF_open {V D : List Fact} {w0 : World} {W : FP} {w : World} (hV : ∀ f ∈ V, f.own = false) (h : SAT w0 W (viewsF V :: D) w) : SAT w0 W (V ++ D) w := by
  obtain ⟨fr, O, R, ⟨fp, ⟨hs, _⟩, h1⟩, h2, h3, h4⟩ := h
  have h1 : (∀ b, fp b → R b) ∧ sat D w O R := h1
  exact ⟨fr, O, R, sat_nil_append hV (sat_mono hs (fun _ h => h) h1.1) h1.2, h2, h3, h4⟩

theorem Lend.views {D V : List Fact} (hV : ∀ f ∈ V, f.own = false) (h : Lend D V) {L : List Fact} (hL : Lend D L) : Lend D (viewsF V :: L) := fun w O R hs =>
  ⟨fun b => (O b ∨ R b) ∧ b < w.heap.size, ⟨sat_viewsR hV (h w O R hs), fun _ hb => hb.2⟩, fun _ hb => hb.1, hL w O R hs⟩

/-! ### yield -/
/-- What a call of yield comes to: a round. -/
def YieldS (P : Program) (l : Nat) (args : List Value) (D : List Fact) (Φ : Value → List Fact → Prop) : Prop :=
  ∀ w W, SAT w W D w → YieldAt Fence.wide 0 P l args.toArray w (fun e w' => ∃ r D', e = .returned r ∧ Φ r D' ∧ (∀ f ∈ D', f.own = true) ∧ SAT w W D' w')

section
variable {X : Cx} {K : Post} {ops : Array Oper} {t : Env} {D : List Fact} {i : Nat}

theorem RunR.yield {d : Option Nat} {c : Operand} {os_ : Array Operand} {ts : Array TypeId} (l : Nat) (vs : List Value) (ho : opInfo ops i t = some (d, .call { callee := .value c, args := os_, argTypes := ts })) (hc : ev t c = some (.func (.yield l) #[] #[])) (ha_ : os_.toList.mapM (ev t) = some vs)
    (hd : (d.map fun d => Nat.ble (d + 1) X.N).getD true = true) (C V E : List Fact) {Φ : Value → List Fact → Prop} (hY : YieldS X.P l vs (C ++ V) Φ) (ks : List Nat) (hD : pulls ks D = (C, E)) (hV : Lend E V)
    (k : ∀ r D', Φ r D' → RunR X K ops (i + 1) (putO t d r) (D' ++ E)) (hr : X.r = none := by rfl) : RunR X K ops i t D := by
  obtain ⟨o, hoi, hg, hdst, hop⟩ := opInfo_spec ho
  intro ρ a w ha hw
  rw [drop_cons hoi]
  unfold wpListIn
  rw [if_pos (gd_sound ha hg)]
  have hp := pulls_perm ks D
  rw [hD] at hp
  obtain ⟨O1, hpre, hpost⟩ := hw.call hp hV
  have hargs : os_.map a.eval = vs.toArray := by
    rw [← Array.toList_inj, Array.toList_map]
    exact eval_map ha ha_
  obtain ⟨fn, tmps, assign, body, hy, hround⟩ := hY w O1 hpre
  have hrun : (execOp a.eval o).run X.P w = .ok (.round l fn tmps assign body) w := by
    unfold execOp
    simp [hop, resolve, ha.ev hc, Deferred.ofValue, invoke, hargs, hy]
  refine ⟨about_any, ?_⟩
  rw [sem_of_run hrun (fun _ h => by cases h), Oper.uponIn_round]
  have hF : X.F = Fence.wide := by unfold Cx.F; rw [hr]; rfl
  refine ⟨fun h => by simp [Cx.F, Fence.wide] at h, ?_⟩
  have hround2 : RoundIn X.F (0 - 1) X.P l fn tmps assign body w (fun e w' => ∃ r D', e = .returned r ∧ Φ r D' ∧ (∀ f ∈ D', f.own = true) ∧ SAT w O1 D' w') := by rw [hF]; exact hround
  refine hround2.mono ?_
  rintro e w' ⟨r, D', rfl, hΦ, hown, hs⟩
  refine k r D' hΦ ρ _ _ ?_ (hpost D' w' hown hs)
  rw [hdst]
  exact ha.putO hd r
end
/-! ### The statement -/
theorem SAT.monoW {w0 : World} {W W' : FP} {D : List Fact} {w : World} (h : SAT w0 W D w) (hW : ∀ b, W b → W' b) : SAT w0 W' D w := by
  obtain ⟨fr, O, R, h1, h2, h3, h4⟩ := h
  exact ⟨⟨fr.os, fr.tape, fr.output, fr.size, fun b hb hn => fr.block b hb (fun h => hn (hW b h))⟩, O, R, h1, h2, fun b hb => (h3 b hb).imp id (hW b), h4⟩

theorem Lend.tail {f : Fact} {E V : List Fact} (h : Lend E V) : Lend (f :: E) V := fun w O R hs => by
  have h1 := h w _ _ (sat_tail hs)
  exact h1

/-- A mark's block leaves the facts: the call's beginning is seen anew from here. -/
theorem SAT.reroot {ρ : Root} {b : Nat} {D : List Fact} {w : World} (h : SAT ρ.w0 ρ.W (objF b (.deferred (some [])) :: D) w) (hok : ρ.OK) : ∃ ρ' : Root, Ext ρ ρ' ∧ ρ'.OK ∧ ρ'.ds = b :: ρ.ds ∧ SAT ρ'.w0 ρ'.W D w := by
  obtain ⟨fr, O, R, ⟨fp, ⟨hb, hfp⟩, h1⟩, h2, h3, h4⟩ := h
  have h1 : (∀ b, fp b → O b) ∧ sat D w (fun b => O b ∧ ¬ fp b) R := h1
  have hO : O b := h1.1 b ((hfp b).2 rfl)
  have hds : ∀ d ∈ ρ.ds, ¬ O d := fun d hd hOd => by
    obtain ⟨q1, q2, _⟩ := hok.at_ d hd
    rcases h3 d hOd with h | h
    · omega
    · exact q2 h
  refine ⟨⟨w, fun x => O x ∧ x ≠ b, b :: ρ.ds⟩, fun D' w' hs => ?_, ⟨List.nodup_cons.2 ⟨fun hm => hds b hm hO, hok.nd⟩, fun d hd => ?_⟩, rfl, ⟨Frame.refl _ _, fun x => O x ∧ ¬ fp x, R, h1.2, fun x hx => h2 x hx.1, fun x hx => .inr ⟨hx.1, fun e => hx.2 ((hfp x).2 e)⟩, fun x hx => h4 x (hx.imp (·.1) id)⟩⟩
  · obtain ⟨fr', O', R', g1, g2, g3, g4⟩ := hs
    have fr' : Frame w (fun x => (O x ∧ x ≠ b) ∨ x ∈ b :: ρ.ds) w' := fr'
    have g3 : ∀ x, O' x → w.heap.size ≤ x ∨ ((O x ∧ x ≠ b) ∨ x ∈ b :: ρ.ds) := g3
    refine ⟨⟨fr'.os.trans fr.os, fr'.tape.trans fr.tape, fr'.output.trans fr.output, Nat.le_trans fr.size fr'.size, fun x hx hW => ?_⟩, O', R', g1, g2, fun x hx => ?_, g4⟩
    · have hW1 : ¬ ρ.W x := fun h => hW (.inl h)
      have hW2 : x ∉ ρ.ds := fun h => hW (.inr h)
      have hnO : ¬ O x := fun h => by
        rcases h3 x h with h | h
        · omega
        · exact hW1 h
      refine (fr'.block x (by have := fr.size; omega) (fun h => ?_)).trans (fr.block x hx hW1)
      rcases h with h | h
      · exact hnO h.1
      · rcases List.mem_cons.1 h with rfl | h
        · exact hnO hO
        · exact hW2 h
    · show ρ.w0.heap.size ≤ x ∨ (ρ.W x ∨ x ∈ ρ.ds)
      rcases g3 x hx with h | ⟨h, _⟩ | h
      · left; have := fr.size; omega
      · exact (h3 x h).imp id .inl
      · rcases List.mem_cons.1 h with rfl | h
        · exact (h3 _ hO).imp id .inl
        · exact .inr (.inr h)
  · rcases List.mem_cons.1 hd with rfl | hd
    · exact ⟨h4 _ (.inl hO), fun h => h.2 rfl, hb⟩
    · obtain ⟨q1, q2, q3⟩ := hok.at_ d hd
      exact ⟨by have := fr.size; show d < w.heap.size; omega, fun h => hds d hd h.1, (fr.block d q1 q2).trans q3⟩

theorem SAT.obj {w0 : World} {W : FP} {D : List Fact} {w : World} {b : Nat} {o : Obj} (h : SAT w0 W (objF b o :: D) w) (o' : Obj) : SAT w0 W (objF b o' :: D) (w.putObj b o') :=
  h.change rfl (objF b o') rfl rfl rfl rfl (by simp) (fun fp hp => by
    have hp : w.heap[b]? = some o ∧ ∀ x, fp x ↔ x = b := hp
    exact ⟨fun x hx => World.putObj_heap_other (fun e => hx ((hp.2 x).2 e)), World.putObj_heap_same (Array.getElem?_eq_some_iff.1 hp.1).1, hp.2⟩)

def putAll (t : Env) : List (Nat × Value) → Env
  | [] => t
  | (d, v) :: ps => putAll (put t d v) ps

theorem putAll_at : ∀ {l : List (Nat × Value)} {t : Env} {tmps : Array Value} {N : Nat}, (∀ p ∈ l, p.1 < N) → tmps.size = N → (∀ p ∈ t, tmps[p.1]? = some p.2) →
    (l.foldl (fun t (p, v) => t.setIfInBounds p v) tmps).size = N ∧ ∀ p ∈ putAll t l, (l.foldl (fun t (p, v) => t.setIfInBounds p v) tmps)[p.1]? = some p.2
  | [], t, tmps, N, _, hs, h => ⟨hs, h⟩
  | (d, v) :: l, t, tmps, N, hl, hs, h => by
    refine putAll_at (l := l) (t := put t d v) (fun p hp => hl p (List.mem_cons_of_mem _ hp)) (by simp [hs]) (fun p hp => ?_)
    rcases List.mem_cons.1 hp with rfl | hp
    · simp [hs, hl (d, v) List.mem_cons_self]
    · obtain ⟨h1, h2⟩ := del_mem hp
      rw [Array.getElem?_setIfInBounds_ne (Ne.symm h2)]
      exact h p h1

def kassign (X : Cx) (l : Nat) (R : LoopState → Option Code → Loop) (c : Code) (K : Post) : Post := fun e t D => match e with
  | .normal => ∃ k0, D[k0]? = some (objF l (.loop (R .ready none))) ∧ RunC X K c t (objF l (.loop (R .busy none)) :: D.eraseIdx k0)
  | _ => False

def kyield {α β : Type} (l : Nat) (R : LoopState → Option Code → Loop) (p : α → Prop) (L : α → List Fact) (c : Code) (q : β → Prop) (M : β → List Fact) : Post := fun e t D => match e with
  | .normal => ∃ x, p x ∧ ∀ w0 W w, SAT w0 W D w → SAT w0 W (objF l (.loop (R .busy none)) :: L x) w
  | .ret => c = .ret ∧ ∃ y, q y ∧ ∀ w0 W w, SAT w0 W D w → SAT w0 W (objF l (.loop (R .busy none)) :: M y) w
  | .exit j => c = .exit j ∧ ∃ y, q y ∧ ∀ w0 W w, SAT w0 W D w → SAT w0 W (objF l (.loop (R .busy none)) :: M y) w
  | _ => False

/-- An iterator's contract: it calls yield of m elements, one behind the other, unless yield answers false. -/
def IterS (P : Program) (gf : FuncId) (cap : List Value) (m : Nat) (Ea : Nat → List Value) (Ev : Nat → List Fact) (C V : List Fact) : Prop :=
  ∀ (l : Nat) (B Sx : Fact) (S : Nat → Fact), B.own = false → Sx.own = true → (∀ i, (S i).own = true) →
    (∀ i, i < m → YieldS P l (Ea i) ([S i] ++ (B :: Ev i)) (fun r D' => (r = .bool true ∧ D' = [S (i + 1)]) ∨ (r = .bool false ∧ D' = [Sx]))) →
    CallsS P gf (.func (.yield l) #[] #[] :: cap) ((S 0 :: C) ++ (B :: V)) (fun _ D' => D' = [S m] ∨ D' = [Sx])

section
variable {X : Cx} {K : Post} {t : Env} {D : List Fact}

theorem RunC.rangeFunc {g : Operand} {ps : Array Tmp} {assign body : Code} (gf : FuncId) (cap : List Value) (hg : ev t g = some (.func (.func gf) #[] cap.toArray)) (m : Nat) (Ea : Nat → List Value) (Ev : Nat → List Fact) (Cit Vit : List Fact) (hit : IterS X.P gf cap m Ea Ev Cit Vit)
    {α β : Type} (p : Nat → α → Prop) (L : α → List Fact) (c : Code) (q : β → Prop) (M : β → List Fact) (V E : List Fact) (x0 : α) (hp0 : p 0 x0) (ks : List Nat) (hD : pulls ks D = (L x0 ++ Cit, E)) (hV : Lend E V) (hVn : ∀ f ∈ V, f.own = false) (hVit : Lend E Vit)
    (hLo : ∀ i x, p i x → ∀ f ∈ L x, f.own = true) (hMo : ∀ y, q y → ∀ f ∈ M y, f.own = true) (hps : ∀ i, (Ea i).length = ps.size) (hpN : ps.toList.all (fun d => Nat.ble (d + 1) X.N) = true)
    (hround : ∀ l R i x, i < m → p i x → RunC ⟨X.P, X.N, some l⟩ (kassign ⟨X.P, X.N, some l⟩ l R body (kyield l R (p (i + 1)) L c q M)) assign (putAll t (ps.toList.zip (Ea i))) (objF l (.loop (R .ready none)) :: L x ++ (V ++ Ev i)))
    (hdone : ∀ x, p m x → K .normal t (L x ++ E)) (hstop : ∀ y, q y → RunC X K c t (M y ++ E)) (hr : X.r = none := by rfl) : RunC X K (.rangeFunc g ps assign body) t D := by
  intro ρ a w ha hw
  have hF : X.F = Fence.wide := by unfold Cx.F; rw [hr]; rfl
  refine wpIn_rangeFunc (fun fn hfn => ?_)
  obtain ⟨R, hR⟩ : ∃ R : LoopState → Option Code → Loop, R = fun st pe => { state := st, pending := pe, fn, tmps := a.tmps, params := ps, assign, body, defers := w.heap.size } := ⟨_, rfl⟩
  have hround0 : X.F.round = none := hr
  rw [hround0]
  obtain ⟨S, hS⟩ : ∃ S : Nat → Fact, S = fun i => exF (p i) (fun x => objF (w.heap.size + 1) (.loop (R .ready none)) :: L x) := ⟨_, rfl⟩
  obtain ⟨Sx, hSx⟩ : ∃ Sx : Fact, Sx = exF q (fun y => objF (w.heap.size + 1) (.loop (R .done (some c))) :: M y) := ⟨_, rfl⟩
  have hSo : ∀ i, (S i).own = true := fun i => by rw [hS]; rfl
  have hSxo : Sx.own = true := by rw [hSx]; rfl
  have h1 : SAT ρ.w0 ρ.W (objF w.heap.size (.deferred (some [])) :: D) (w.alloc (.deferred (some []))) := hw.alloc _ _ rfl ⟨heap_alloc_new w _, fun _ => Iff.rfl⟩
  have h2 : SAT ρ.w0 ρ.W (objF (w.heap.size + 1) (.loop (R .ready none)) :: objF w.heap.size (.deferred (some [])) :: D) ((w.alloc (.deferred (some []))).alloc (.loop (R .ready none))) := by
    have h := h1.alloc (.loop (R .ready none)) (objF (w.alloc (.deferred (some []))).heap.size (.loop (R .ready none))) rfl ⟨heap_alloc_new _ _, fun _ => Iff.rfl⟩
    rwa [World.size_alloc] at h
  have hperm := pulls_perm ks D
  rw [hD] at hperm
  have h3 : SAT ρ.w0 ρ.W ((objF (w.heap.size + 1) (.loop (R .ready none)) :: L x0) ++ (Cit ++ (objF w.heap.size (.deferred (some [])) :: E))) ((w.alloc (.deferred (some []))).alloc (.loop (R .ready none))) := by
    refine h2.perm (List.Perm.cons _ ?_)
    refine (List.Perm.cons _ hperm).trans ?_
    have e : L x0 ++ (Cit ++ (objF w.heap.size (.deferred (some [])) :: E)) = (L x0 ++ Cit) ++ (objF w.heap.size (.deferred (some [])) :: E) := by rw [List.append_assoc]
    show List.Perm _ (L x0 ++ (Cit ++ _))
    rw [e]
    exact List.perm_middle.symm
  have h4 := exF_close (p := p 0) (L := fun x => objF (w.heap.size + 1) (.loop (R .ready none)) :: L x) x0 hp0 (fun f hf => by
    rcases List.mem_cons.1 hf with rfl | hf
    · rfl
    · exact hLo 0 x0 hp0 f hf) h3
  have h5 : SAT ρ.w0 ρ.W ((S 0 :: Cit) ++ (objF w.heap.size (.deferred (some [])) :: E)) ((w.alloc (.deferred (some []))).alloc (.loop (R .ready none))) := by rw [hS]; exact h4
  have hlend : Lend (objF w.heap.size (.deferred (some [])) :: E) (viewsF V :: Vit) := (Lend.views hVn hV hVit).tail
  obtain ⟨O1, hpre, hpost⟩ := h5.call (List.Perm.refl _) hlend
  have hY : ∀ i, i < m → YieldS X.P (w.heap.size + 1) (Ea i) ([S i] ++ (viewsF V :: Ev i)) (fun r D' => (r = .bool true ∧ D' = [S (i + 1)]) ∨ (r = .bool false ∧ D' = [Sx])) := by
    intro i hi w1 W1 hs
    rw [hS] at hs
    obtain ⟨x, hpx, hs⟩ := exF_open (D := viewsF V :: Ev i) hs
    have hs2 : SAT w1 W1 (objF (w.heap.size + 1) (.loop (R .ready none)) :: L x ++ (V ++ Ev i)) w1 := by
      have hv := viewsF_open hVn (hs.perm List.perm_middle)
      refine hv.perm ?_
      have e : objF (w.heap.size + 1) (.loop (R .ready none)) :: L x ++ (V ++ Ev i) = ((objF (w.heap.size + 1) (.loop (R .ready none)) :: L x) ++ V) ++ Ev i := by rw [List.append_assoc]
      rw [e, ← List.append_assoc]
      exact List.perm_append_comm.append_right _
    obtain ⟨_, hl, _⟩ := hs2.head
    have hsz : (Ea i).toArray.size = (R .ready none).params.size := by rw [hR]; simpa using hps i
    refine ⟨_, _, _, _, run_yield hl hsz, ?_⟩
    have hput := putAll_at (l := ps.toList.zip (Ea i)) (t := t) (tmps := a.tmps) (N := X.N) (fun pr hpr => by
      have hm := (List.of_mem_zip hpr).1
      exact Nat.le_of_ble_eq_true (List.all_eq_true.1 hpN pr.1 hm)) ha.size ha.at_
    have hfold : ((R .ready none).params.zip (Ea i).toArray).foldl (fun tmps (x : Tmp × Value) => tmps.setIfInBounds x.1 x.2) (R .ready none).tmps = (ps.toList.zip (Ea i)).foldl (fun t (x : Nat × Value) => t.setIfInBounds x.1 x.2) a.tmps := by
      rw [hR, ← Array.foldl_toList]
      simp
    have hgo := hround (w.heap.size + 1) R i x hi hpx ⟨w1, W1, []⟩ { tmps := (ps.toList.zip (Ea i)).foldl (fun t (x : Nat × Value) => t.setIfInBounds x.1 x.2) a.tmps, defers := [] } w1 ⟨⟨List.nodup_nil, fun b hb => by cases hb⟩, rfl, hput.1, hput.2⟩ hs2
    have hR1 : (R .ready none).assign = assign := by rw [hR]
    have hR2 : (R .ready none).body = body := by rw [hR]
    rw [hR1, hR2]
    have fin : ∀ (ρ1 : Root) (G : List Fact) (w' : World), Ext ⟨w1, W1, []⟩ ρ1 → SAT ρ1.w0 ρ1.W G w' → SAT w1 W1 G w' := fun ρ1 G w' hx hs => by
      have h := hx G w' (hs.monoW (fun _ h => .inl h))
      exact h.monoW (fun b hb => hb.elim id (fun h => by cases h))
    refine roundIn_of_wpIn trivial ?_
    have e0 : ((R .ready none).params.zip (Ea i).toArray).foldl (fun tmps (t, a) => tmps.setIfInBounds t a) (R .ready none).tmps = (ps.toList.zip (Ea i)).foldl (fun t (x : Nat × Value) => t.setIfInBounds x.1 x.2) a.tmps := hfold
    rw [e0]
    refine wpIn_mono hgo ?_
    rintro e a1 w2 ⟨ρ1, t1, D1, hx1, ha1, hs1, hk1⟩
    cases e with
    | normal =>
      obtain ⟨k0, hk0, hrun⟩ := hk1
      have hp1 := hs1.pull hk0
      obtain ⟨_, hl1, _⟩ := hp1.head
      have hb1 := run_beginRound (P := X.P) hl1 (by rw [hR])
      have hob := hp1.obj (.loop (R .busy none))
      have hRb : ({ R .ready none with state := .busy } : Loop) = R .busy none := by rw [hR]
      rw [hRb] at hb1
      refine ⟨_, hb1, wpIn_mono (hrun ρ1 a1 _ ha1 hob) ?_⟩
      rintro e a2 w3 ⟨ρ2, t2, D2, hx2, ha2, hs2, hk2⟩
      have hx := hx1.trans hx2
      cases e with
      | normal =>
        obtain ⟨x', hp', hsel⟩ := hk2
        have h6 := hsel _ _ _ hs2
        obtain ⟨_, hl2, _⟩ := h6.head
        have hend := run_endRound (P := X.P) none hl2
        have hRe : ({ R .busy none with state := if (none : Option Code).isNone then .ready else .done, pending := none } : Loop) = R .ready none := by rw [hR]; rfl
        rw [hRe] at hend
        have h7 := fin ρ2 _ _ hx (h6.obj (.loop (R .ready none)))
        refine ⟨_, _, hend, _, [S (i + 1)], rfl, .inl ⟨rfl, rfl⟩, fun f hf => by rw [List.mem_singleton.1 hf]; exact hSo _, ?_⟩
        rw [hS]
        refine exF_close (p := p (i + 1)) (L := fun x => objF (w.heap.size + 1) (.loop (R .ready none)) :: L x) x' hp' (fun f hf => ?_) (by simpa using h7)
        rcases List.mem_cons.1 hf with rfl | hf
        · rfl
        · exact hLo _ x' hp' f hf
      | ret =>
        obtain ⟨hc, y, hq, hsel⟩ := hk2
        have h6 := hsel _ _ _ hs2
        obtain ⟨_, hl2, _⟩ := h6.head
        have hend := run_endRound (P := X.P) (some .ret) hl2
        have hRe : ({ R .busy none with state := if (some Code.ret : Option Code).isNone then .ready else .done, pending := some .ret } : Loop) = R .done (some c) := by rw [hR, hc]; rfl
        rw [hRe] at hend
        have h7 := fin ρ2 _ _ hx (h6.obj (.loop (R .done (some c))))
        refine ⟨_, _, hend, _, [Sx], rfl, .inr ⟨rfl, rfl⟩, fun f hf => by rw [List.mem_singleton.1 hf]; exact hSxo, ?_⟩
        rw [hSx]
        refine exF_close (p := q) (L := fun y => objF (w.heap.size + 1) (.loop (R .done (some c))) :: M y) y hq (fun f hf => ?_) (by simpa using h7)
        rcases List.mem_cons.1 hf with rfl | hf
        · rfl
        · exact hMo y hq f hf
      | exit j =>
        obtain ⟨hc, y, hq, hsel⟩ := hk2
        have h6 := hsel _ _ _ hs2
        obtain ⟨_, hl2, _⟩ := h6.head
        have hend := run_endRound (P := X.P) (some (.exit j)) hl2
        have hRe : ({ R .busy none with state := if (some (Code.exit j) : Option Code).isNone then .ready else .done, pending := some (.exit j) } : Loop) = R .done (some c) := by rw [hR, hc]; rfl
        rw [hRe] at hend
        have h7 := fin ρ2 _ _ hx (h6.obj (.loop (R .done (some c))))
        refine ⟨_, _, hend, _, [Sx], rfl, .inr ⟨rfl, rfl⟩, fun f hf => by rw [List.mem_singleton.1 hf]; exact hSxo, ?_⟩
        rw [hSx]
        refine exF_close (p := q) (L := fun y => objF (w.heap.size + 1) (.loop (R .done (some c))) :: M y) y hq (fun f hf => ?_) (by simpa using h7)
        rcases List.mem_cons.1 hf with rfl | hf
        · rfl
        · exact hMo y hq f hf
      | goto l => exact hk2.elim
      | panic ch => exact hk2.elim
      | outgrown => exact hk2.elim
    | _ => exact hk1.elim
  have hcalls := hit (w.heap.size + 1) (viewsF V) Sx S rfl hSxo hSo hY
  obtain ⟨⟨gfn, gcb, hf, hb, hname⟩, hcalls⟩ := hcalls
  have hcalls := hcalls _ O1 hpre
  have hR0 : (Obj.loop { state := .ready, pending := none, fn, tmps := a.tmps, params := ps, assign, body, defers := w.heap.size } : Obj) = .loop (R .ready none) := by rw [hR]
  have hok' : ∀ (ρ' : Root), ρ'.OK → ρ'.ds = w.heap.size :: ρ.ds → EnvOK X.N ρ' t { a with defers := [{ target := .collected w.heap.size, args := #[] }] ++ a.defers } := fun ρ' h1 h2 => ⟨h1, by rw [h2]; simp only [List.map_cons, ha.defers]; rfl, ha.size, ha.at_⟩
  refine ⟨w.heap.size + 1, [{ target := .collected w.heap.size, args := #[] }], (w.alloc (.deferred (some []))).alloc (.loop (R .ready none)), { target := .fn (.func gf) cap.toArray, args := #[.func (.yield (w.heap.size + 1)) #[] #[]] }, (w.alloc (.deferred (some []))).alloc (.loop (R .ready none)), gf,
    #[.func (.yield (w.heap.size + 1)) #[] #[]] ++ cap.toArray, (w.alloc (.deferred (some []))).alloc (.loop (R .ready none)), ?_, ?_, fun f' _ => by rw [hF]; trivial, ?_, fun h => by rw [hF] at h; simp [Fence.wide] at h, ?_⟩
  · rw [← hR0]
    exact run_enterLoop_outer _ _ _ _ _
  · simp only [resolve, ha.ev hg]
    simp [go_sem]
  · simp [invoke, go_sem, callFunc, hf, hb, hname]
  · rw [hF]
    have e : (Value.func (.yield (w.heap.size + 1)) #[] #[] :: cap).toArray = #[.func (.yield (w.heap.size + 1)) #[] #[]] ++ cap.toArray := by simp
    rw [e] at hcalls
    refine (callsIn_wide (n := 0 - 1)).2 (hcalls.mono ?_)
    · rintro e w3 ⟨r, D', rfl, hD', hown, hs3⟩
      have h8 := hpost D' w3 hown hs3
      rcases hD' with rfl | rfl
      · rw [hS] at h8
        obtain ⟨x, hpx, h9⟩ := exF_open (D := objF w.heap.size (.deferred (some [])) :: E) h8
        obtain ⟨_, hl3, _⟩ := h9.head
        have hend := run_endLoop (P := X.P) hl3 (by rw [hR]; simp)
        have hpend : (R .ready none).pending = none := by rw [hR]
        have hend := hend.trans (congrArg (fun x => Result.ok x _) hpend)
        refine ⟨none, _, hend, ?_⟩
        have h10 := (h9.obj (.loop { R .ready none with state := .exhausted })).tail
        obtain ⟨ρ', hx, hok, hds, h11⟩ := SAT.reroot (h10.perm List.perm_middle) ha.ok
        exact ⟨ρ', t, L x ++ E, hx, hok' ρ' hok hds, h11, hdone x hpx⟩
      · rw [hSx] at h8
        obtain ⟨y, hq, h9⟩ := exF_open (D := objF w.heap.size (.deferred (some [])) :: E) h8
        obtain ⟨_, hl3, _⟩ := h9.head
        have hend := run_endLoop (P := X.P) hl3 (by rw [hR]; simp)
        have hpend : (R .done (some c)).pending = some c := by rw [hR]
        have hend := hend.trans (congrArg (fun x => Result.ok x _) hpend)
        refine ⟨some c, _, hend, ?_⟩
        have h10 := (h9.obj (.loop { R .done (some c) with state := .exhausted })).tail
        obtain ⟨ρ', hx, hok, hds, h11⟩ := SAT.reroot (h10.perm List.perm_middle) ha.ok
        have hgo := hstop y hq ρ' _ _ (hok' ρ' hok hds) h11
        rw [hF] at hgo
        exact wpIn_mono hgo (fun e a w hd => den_mono hx (fun _ _ _ hk => hk) hd)
end
section
variable {X : Cx} {K : Post} {t : Env} {D : List Fact} {α β : Type} {l : Nat} {R : LoopState → Option Code → Loop} {p : α → Prop} {L : α → List Fact} {c : Code} {q : β → Prop} {M : β → List Fact}
theorem kassign_n (k0 : Nat) (h : D[k0]? = some (objF l (.loop (R .ready none)))) (hb : RunC X K c t (objF l (.loop (R .busy none)) :: D.eraseIdx k0)) : kassign X l R c K .normal t D := ⟨k0, h, hb⟩
theorem kyield_n (x : α) (ks : List Nat) (D' : List Fact) (hD : (pulls ks D).1 = D') (hp : p x) (he : D' = objF l (.loop (R .busy none)) :: L x) : kyield l R p L c q M .normal t D :=
  ⟨x, hp, fun _ _ _ hs => by rw [← he]; exact hs.sel ks D' hD⟩
end
end Go.Proofs.YtjhinpmnpdgadaaDoor.SL
