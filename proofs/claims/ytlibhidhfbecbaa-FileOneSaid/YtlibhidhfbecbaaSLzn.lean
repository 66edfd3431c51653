import Derived.Test.YtlibhidhfbecbaaSLw
import Derived.RangeFuncSeq
import Derived.ChangeKeysEq
import Derived.Laws.StructEq
import Derived.OrdersIn
import Derived.Deep.AppendSrc
import Derived.Lib.UnsafeStr
import Derived.Lib.MakeNoZero
import Derived.Lib.Builder
/- Ranges over functions: the iterator's contract, a round's walk, the statement. -/
namespace Go.Proofs.Ytlibhidhfbecbaa.SL
set_option linter.unusedVariables false
set_option linter.unusedSimpArgs false
open Go Go.RowKit

def objF (b : Nat) (o : Obj) : Fact where
  own := true
  P w fp := w.heap[b]? = some o ∧ ∀ x, fp x ↔ x = b
  loc := fun h hl => ⟨(hl b ((h.2 b).2 rfl)).trans h.1, h.2⟩
  bnd := fun h x hx => by
    rw [(h.2 x).1 hx]
    exact (Array.getElem?_eq_some_iff.1 h.1).1

theorem sat_noR : ∀ {L : List Fact} {w : World} {O R : FP}, (∀ f ∈ L, f.own = true) → sat L w O R → sat L w O (fun _ => False)
  | [], _, _, _, _, _ => trivial
  | f :: L, w, O, R, hown, ⟨fp, hp, h⟩ => by
    have hf := hown f List.mem_cons_self
    rw [hf] at h
    refine ⟨fp, hp, ?_⟩
    rw [hf]
    exact ⟨h.1, sat_noR (fun g hg => hown g (List.mem_cons_of_mem _ hg)) h.2⟩

def exF {α : Type} (p : α → Prop) (L : α → List Fact) : Fact where
  own := true
  P w fp := ∃ x, p x ∧ sat (L x) w fp (fun _ => False) ∧ ∀ b, fp b → b < w.heap.size
  loc := fun ⟨x, hp, hs, hb⟩ hl => ⟨x, hp, sat_loc hs (fun b hb' => hl b (hb'.resolve_right (fun h => h))), fun b hb' => by
    have h := hb b hb'
    have e := hl b hb'
    rw [Array.getElem?_eq_getElem h] at e
    exact (Array.getElem?_eq_some_iff.1 e).1⟩
  bnd := fun ⟨x, hp, hs, hb⟩ => hb

theorem exF_open {α : Type} {p : α → Prop} {L : α → List Fact} {D : List Fact} {w0 : World} {W : FP} {w : World} (h : SAT w0 W (exF p L :: D) w) : ∃ x, p x ∧ SAT w0 W (L x ++ D) w := by
  obtain ⟨fr, O, R, ⟨fp, ⟨x, hp, hs, hb⟩, h1⟩, h2, h3, h4⟩ := h
  have h1 : (∀ b, fp b → O b) ∧ sat D w (fun b => O b ∧ ¬ fp b) R := h1
  refine ⟨x, hp, fr, O, R, ?_, h2, h3, h4⟩
  have hj := sat_join (sat_mono hs (fun _ h => h) (R' := R) (fun _ h => h.elim)) h1.2 (fun b hb hn => hn.2 hb)
  exact sat_mono hj (fun b hb => hb.elim (h1.1 b) (·.1)) (fun _ h => h)

theorem exF_close {α : Type} {p : α → Prop} {L : α → List Fact} {D : List Fact} {w0 : World} {W : FP} {w : World} (x : α) (hp : p x) (ho : ∀ f ∈ L x, f.own = true) (h : SAT w0 W (L x ++ D) w) : SAT w0 W (exF p L :: D) w := by
  obtain ⟨fr, O, R, h1, h2, h3, h4⟩ := h
  obtain ⟨O1, g1, g2, g3⟩ := sat_append h1
  exact ⟨fr, O, R, ⟨O1, ⟨x, hp, sat_noR ho g2, fun b hb => h4 b (.inl (g1 b hb))⟩, g1, g3⟩, h2, h3, h4⟩

theorem sat_viewsR : ∀ {V : List Fact} {w : World} {O R : FP}, (∀ f ∈ V, f.own = false) → sat V w O R → sat V w O (fun b => R b ∧ b < w.heap.size)
  | [], _, _, _, _, _ => trivial
  | f :: V, w, O, R, hown, ⟨fp, hp, h⟩ => by
    have hf := hown f List.mem_cons_self
    rw [hf] at h
    refine ⟨fp, hp, ?_⟩
    rw [hf]
    exact ⟨fun b hb => ⟨h.1 b hb, f.bnd hp b hb⟩, sat_viewsR (fun g hg => hown g (List.mem_cons_of_mem _ hg)) h.2⟩

def viewsF (V : List Fact) : Fact where
  own := false
  P w fp := sat V w (fun _ => False) fp ∧ ∀ b, fp b → b < w.heap.size
  loc := fun h hl => ⟨sat_loc h.1 (fun b hb' => hl b (hb'.resolve_left (fun h => h))), fun b hb' => by
    have h := h.2 b hb'
    have e := hl b hb'
    rw [Array.getElem?_eq_getElem h] at e
    exact (Array.getElem?_eq_some_iff.1 e).1⟩
  bnd := fun h => h.2

theorem sat_nil_append {V D : List Fact} {w : World} {O R : FP} (hV : ∀ f ∈ V, f.own = false) (h : sat V w (fun _ => False) R) (hD : sat D w O R) : sat (V ++ D) w O R :=
  sat_mono (sat_join h hD (fun _ h => h.elim)) (fun _ hb => hb.elim False.elim id) (fun _ h => h)

theorem viewsF_open {V D : List Fact} {w0 : World} {W : FP} {w : World} (hV : ∀ f ∈ V, f.own = false) (h : SAT w0 W (viewsF V :: D) w) : SAT w0 W (V ++ D) w := by
  obtain ⟨fr, O, R, ⟨fp, ⟨hs, _⟩, h1⟩, h2, h3, h4⟩ := h
  have h1 : (∀ b, fp b → R b) ∧ sat D w O R := h1
  exact ⟨fr, O, R, sat_nil_append hV (sat_mono hs (fun _ h => h) h1.1) h1.2, h2, h3, h4⟩

theorem Lend.views {D V : List Fact} (hV : ∀ f ∈ V, f.own = false) (h : Lend D V) {L : List Fact} (hL : Lend D L) : Lend D (viewsF V :: L) := fun w O R hs =>
  ⟨fun b => (O b ∨ R b) ∧ b < w.heap.size, ⟨sat_viewsR hV (h w O R hs), fun _ hb => hb.2⟩, fun _ hb => hb.1, hL w O R hs⟩

def YieldS (P : Program) (l : Nat) (args : List Value) (D : List Fact) (Φ : Value → List Fact → Prop) : Prop :=
  ∀ w W, SAT w W D w → YieldAt Fence.wide 0 P l args.toArray w (fun e w' => ∃ r D', e = .returned r ∧ Φ r D' ∧ (∀ f ∈ D', f.own = true) ∧ SAT w W D' w')

section
variable {X : Cx} {K : Post} {ops : Array Oper} {t : Env} {D : List Fact} {i : Nat}

theorem RunR.yield {d : Option Nat} {c : Operand} {os_ : Array Operand} {ts : Array TypeId} (l : Nat) (vs : List Value) (ho : opInfo ops i t = some (d, .call { callee := .value c, args := os_, argTypes := ts })) (hc : ev t c = some (.func (.yield l) #[] #[])) (ha_ : os_.toList.mapM (ev t) = some vs)
    (hd : (d.map fun d => Nat.ble (d + 1) X.N).getD true = true) (C V E : List Fact) {Φ : Value → List Fact → Prop} (hY : YieldS X.P l vs (C ++ V) Φ) (ks : List Nat) (hD : pulls ks D = (C, E)) (hV : Lend E V)
    (k : ∀ r D', Φ r D' → RunR X K ops (i + 1) (putO t d r) (D' ++ E)) (hr : X.r = none := by rfl) : RunR X K ops i t D := by
  obtain ⟨o, hoi, hg, hdst, hop⟩ := opInfo_spec ho
  intro ρ a w ha hw
  rw [drop_cons hoi]
  unfold wpListIn
  rw [if_pos (gd_sound ha hg)]
  have hp := pulls_perm ks D
  rw [hD] at hp
  obtain ⟨O1, hpre, hpost⟩ := hw.call hp hV
  have hargs : os_.map a.eval = vs.toArray := by
    rw [← Array.toList_inj, Array.toList_map]
    exact eval_map ha ha_
  obtain ⟨fn, tmps, assign, body, hy, hround⟩ := hY w O1 hpre
  have hrun : (execOp a.eval o).run X.P w = .ok (.round l fn tmps assign body) w := by
    unfold execOp
    simp [hop, resolve, ha.ev hc, Deferred.ofValue, invoke, hargs, hy]
  refine ⟨about_any, ?_⟩
  rw [sem_of_run hrun (fun _ h => by cases h), Oper.uponIn_round]
  have hF : X.F = Fence.wide := by unfold Cx.F; rw [hr]; rfl
  refine ⟨fun h => by simp [Cx.F, Fence.wide] at h, ?_⟩
  have hround2 : RoundIn X.F (0 - 1) X.P l fn tmps assign body w (fun e w' => ∃ r D', e = .returned r ∧ Φ r D' ∧ (∀ f ∈ D', f.own = true) ∧ SAT w O1 D' w') := by rw [hF]; exact hround
  refine hround2.mono ?_
  rintro e w' ⟨r, D', rfl, hΦ, hown, hs⟩
  refine k r D' hΦ ρ _ _ ?_ (hpost D' w' hown hs)
  rw [hdst]
  exact ha.putO hd r
end
theorem SAT.monoW {w0 : World} {W W' : FP} {D : List Fact} {w : World} (h : SAT w0 W D w) (hW : ∀ b, W b → W' b) : SAT w0 W' D w := by
  obtain ⟨fr, O, R, h1, h2, h3, h4⟩ := h
  exact ⟨⟨fr.os, fr.tape, fr.output, fr.size, fun b hb hn => fr.block b hb (fun h => hn (hW b h))⟩, O, R, h1, h2, fun b hb => (h3 b hb).imp id (hW b), h4⟩

theorem Lend.tail {f : Fact} {E V : List Fact} (h : Lend E V) : Lend (f :: E) V := fun w O R hs => by
  have h1 := h w _ _ (sat_tail hs)
  exact h1

theorem SAT.reroot {ρ : Root} {b : Nat} {D : List Fact} {w : World} (h : SAT ρ.w0 ρ.W (objF b (.deferred (some [])) :: D) w) (hok : ρ.OK) : ∃ ρ' : Root, Ext ρ ρ' ∧ ρ'.OK ∧ ρ'.ds = b :: ρ.ds ∧ SAT ρ'.w0 ρ'.W D w := by
  obtain ⟨fr, O, R, ⟨fp, ⟨hb, hfp⟩, h1⟩, h2, h3, h4⟩ := h
  have h1 : (∀ b, fp b → O b) ∧ sat D w (fun b => O b ∧ ¬ fp b) R := h1
  have hO : O b := h1.1 b ((hfp b).2 rfl)
  have hds : ∀ d ∈ ρ.ds, ¬ O d := fun d hd hOd => by
    obtain ⟨q1, q2, _⟩ := hok.at_ d hd
    rcases h3 d hOd with h | h
    · omega
    · exact q2 h
  refine ⟨⟨w, fun x => O x ∧ x ≠ b, b :: ρ.ds⟩, fun D' w' hs => ?_, ⟨List.nodup_cons.2 ⟨fun hm => hds b hm hO, hok.nd⟩, fun d hd => ?_⟩, rfl, ⟨Frame.refl _ _, fun x => O x ∧ ¬ fp x, R, h1.2, fun x hx => h2 x hx.1, fun x hx => .inr ⟨hx.1, fun e => hx.2 ((hfp x).2 e)⟩, fun x hx => h4 x (hx.imp (·.1) id)⟩⟩
  · obtain ⟨fr', O', R', g1, g2, g3, g4⟩ := hs
    have fr' : Frame w (fun x => (O x ∧ x ≠ b) ∨ x ∈ b :: ρ.ds) w' := fr'
    have g3 : ∀ x, O' x → w.heap.size ≤ x ∨ ((O x ∧ x ≠ b) ∨ x ∈ b :: ρ.ds) := g3
    refine ⟨⟨fr'.os.trans fr.os, fr'.tape.trans fr.tape, fr'.output.trans fr.output, Nat.le_trans fr.size fr'.size, fun x hx hW => ?_⟩, O', R', g1, g2, fun x hx => ?_, g4⟩
    · have hW1 : ¬ ρ.W x := fun h => hW (.inl h)
      have hW2 : x ∉ ρ.ds := fun h => hW (.inr h)
      have hnO : ¬ O x := fun h => by
        rcases h3 x h with h | h
        · omega
        · exact hW1 h
      refine (fr'.block x (by have := fr.size; omega) (fun h => ?_)).trans (fr.block x hx hW1)
      rcases h with h | h
      · exact hnO h.1
      · rcases List.mem_cons.1 h with rfl | h
        · exact hnO hO
        · exact hW2 h
    · show ρ.w0.heap.size ≤ x ∨ (ρ.W x ∨ x ∈ ρ.ds)
      rcases g3 x hx with h | ⟨h, _⟩ | h
      · left; have := fr.size; omega
      · exact (h3 x h).imp id .inl
      · rcases List.mem_cons.1 h with rfl | h
        · exact (h3 _ hO).imp id .inl
        · exact .inr (.inr h)
  · rcases List.mem_cons.1 hd with rfl | hd
    · exact ⟨h4 _ (.inl hO), fun h => h.2 rfl, hb⟩
    · obtain ⟨q1, q2, q3⟩ := hok.at_ d hd
      exact ⟨by have := fr.size; show d < w.heap.size; omega, fun h => hds d hd h.1, (fr.block d q1 q2).trans q3⟩

theorem SAT.obj {w0 : World} {W : FP} {D : List Fact} {w : World} {b : Nat} {o : Obj} (h : SAT w0 W (objF b o :: D) w) (o' : Obj) : SAT w0 W (objF b o' :: D) (w.putObj b o') :=
  h.change rfl (objF b o') rfl rfl rfl rfl (by simp) (fun fp hp => by
    have hp : w.heap[b]? = some o ∧ ∀ x, fp x ↔ x = b := hp
    exact ⟨fun x hx => World.putObj_heap_other (fun e => hx ((hp.2 x).2 e)), World.putObj_heap_same (Array.getElem?_eq_some_iff.1 hp.1).1, hp.2⟩)

def putAll (t : Env) : List (Nat × Value) → Env
  | [] => t
  | (d, v) :: ps => putAll (put t d v) ps

theorem putAll_at : ∀ {l : List (Nat × Value)} {t : Env} {tmps : Array Value} {N : Nat}, (∀ p ∈ l, p.1 < N) → tmps.size = N → (∀ p ∈ t, tmps[p.1]? = some p.2) →
    (l.foldl (fun t (p, v) => t.setIfInBounds p v) tmps).size = N ∧ ∀ p ∈ putAll t l, (l.foldl (fun t (p, v) => t.setIfInBounds p v) tmps)[p.1]? = some p.2
  | [], t, tmps, N, _, hs, h => ⟨hs, h⟩
  | (d, v) :: l, t, tmps, N, hl, hs, h => by
    refine putAll_at (l := l) (t := put t d v) (fun p hp => hl p (List.mem_cons_of_mem _ hp)) (by simp [hs]) (fun p hp => ?_)
    rcases List.mem_cons.1 hp with rfl | hp
    · simp [hs, hl (d, v) List.mem_cons_self]
    · obtain ⟨h1, h2⟩ := del_mem hp
      rw [Array.getElem?_setIfInBounds_ne (Ne.symm h2)]
      exact h p h1

def kassign (X : Cx) (l : Nat) (R : LoopState → Option Code → Loop) (c : Code) (K : Post) : Post := fun e t D => match e with
  | .normal => ∃ k0, D[k0]? = some (objF l (.loop (R .ready none))) ∧ RunC X K c t (objF l (.loop (R .busy none)) :: D.eraseIdx k0)
  | _ => False

def kyield {α β : Type} (l : Nat) (R : LoopState → Option Code → Loop) (p : α → Prop) (L : α → List Fact) (c : Code) (q : β → Prop) (M : β → List Fact) : Post := fun e t D => match e with
  | .normal => ∃ x, p x ∧ ∀ w0 W w, SAT w0 W D w → SAT w0 W (objF l (.loop (R .busy none)) :: L x) w
  | .ret => c = .ret ∧ ∃ y, q y ∧ ∀ w0 W w, SAT w0 W D w → SAT w0 W (objF l (.loop (R .busy none)) :: M y) w
  | .exit j => c = .exit j ∧ ∃ y, q y ∧ ∀ w0 W w, SAT w0 W D w → SAT w0 W (objF l (.loop (R .busy none)) :: M y) w
  | _ => False

def IterS (P : Program) (gf : FuncId) (cap : List Value) (m : Nat) (Ea : Nat → List Value) (Ev : Nat → List Fact) (C V : List Fact) : Prop :=
  ∀ (l : Nat) (B Sx : Fact) (S : Nat → Fact), B.own = false → Sx.own = true → (∀ i, (S i).own = true) →
    (∀ i, i < m → YieldS P l (Ea i) ([S i] ++ (B :: Ev i)) (fun r D' => (r = .bool true ∧ D' = [S (i + 1)]) ∨ (r = .bool false ∧ D' = [Sx]))) →
    CallsS P gf (.func (.yield l) #[] #[] :: cap) ((S 0 :: C) ++ (B :: V)) (fun _ D' => D' = [S m] ∨ D' = [Sx])

section
variable {X : Cx} {K : Post} {t : Env} {D : List Fact}

theorem RunC.rangeFunc {g : Operand} {ps : Array Tmp} {assign body : Code} (gf : FuncId) (cap : List Value) (hg : ev t g = some (.func (.func gf) #[] cap.toArray)) (m : Nat) (Ea : Nat → List Value) (Ev : Nat → List Fact) (Cit Vit : List Fact) (hit : IterS X.P gf cap m Ea Ev Cit Vit)
    {α β : Type} (p : Nat → α → Prop) (L : α → List Fact) (c : Code) (q : β → Prop) (M : β → List Fact) (V E : List Fact) (x0 : α) (hp0 : p 0 x0) (ks : List Nat) (hD : pulls ks D = (L x0 ++ Cit, E)) (hV : Lend E V) (hVn : ∀ f ∈ V, f.own = false) (hVit : Lend E Vit)
    (hLo : ∀ i x, p i x → ∀ f ∈ L x, f.own = true) (hMo : ∀ y, q y → ∀ f ∈ M y, f.own = true) (hps : ∀ i, (Ea i).length = ps.size) (hpN : ps.toList.all (fun d => Nat.ble (d + 1) X.N) = true)
    (hround : ∀ l R i x, i < m → p i x → RunC ⟨X.P, X.N, some l⟩ (kassign ⟨X.P, X.N, some l⟩ l R body (kyield l R (p (i + 1)) L c q M)) assign (putAll t (ps.toList.zip (Ea i))) (objF l (.loop (R .ready none)) :: L x ++ (V ++ Ev i)))
    (hdone : ∀ x, p m x → K .normal t (L x ++ E)) (hstop : ∀ y, q y → RunC X K c t (M y ++ E)) (hr : X.r = none := by rfl) : RunC X K (.rangeFunc g ps assign body) t D := by
  intro ρ a w ha hw
  have hF : X.F = Fence.wide := by unfold Cx.F; rw [hr]; rfl
  refine wpIn_rangeFunc (fun fn hfn => ?_)
  obtain ⟨R, hR⟩ : ∃ R : LoopState → Option Code → Loop, R = fun st pe => { state := st, pending := pe, fn, tmps := a.tmps, params := ps, assign, body, defers := w.heap.size } := ⟨_, rfl⟩
  have hround0 : X.F.round = none := hr
  rw [hround0]
  obtain ⟨S, hS⟩ : ∃ S : Nat → Fact, S = fun i => exF (p i) (fun x => objF (w.heap.size + 1) (.loop (R .ready none)) :: L x) := ⟨_, rfl⟩
  obtain ⟨Sx, hSx⟩ : ∃ Sx : Fact, Sx = exF q (fun y => objF (w.heap.size + 1) (.loop (R .done (some c))) :: M y) := ⟨_, rfl⟩
  have hSo : ∀ i, (S i).own = true := fun i => by rw [hS]; rfl
  have hSxo : Sx.own = true := by rw [hSx]; rfl
  have h1 : SAT ρ.w0 ρ.W (objF w.heap.size (.deferred (some [])) :: D) (w.alloc (.deferred (some []))) := hw.alloc _ _ rfl ⟨heap_alloc_new w _, fun _ => Iff.rfl⟩
  have h2 : SAT ρ.w0 ρ.W (objF (w.heap.size + 1) (.loop (R .ready none)) :: objF w.heap.size (.deferred (some [])) :: D) ((w.alloc (.deferred (some []))).alloc (.loop (R .ready none))) := by
    have h := h1.alloc (.loop (R .ready none)) (objF (w.alloc (.deferred (some []))).heap.size (.loop (R .ready none))) rfl ⟨heap_alloc_new _ _, fun _ => Iff.rfl⟩
    rwa [World.size_alloc] at h
  have hperm := pulls_perm ks D
  rw [hD] at hperm
  have h3 : SAT ρ.w0 ρ.W ((objF (w.heap.size + 1) (.loop (R .ready none)) :: L x0) ++ (Cit ++ (objF w.heap.size (.deferred (some [])) :: E))) ((w.alloc (.deferred (some []))).alloc (.loop (R .ready none))) := by
    refine h2.perm (List.Perm.cons _ ?_)
    refine (List.Perm.cons _ hperm).trans ?_
    have e : L x0 ++ (Cit ++ (objF w.heap.size (.deferred (some [])) :: E)) = (L x0 ++ Cit) ++ (objF w.heap.size (.deferred (some [])) :: E) := by rw [List.append_assoc]
    show List.Perm _ (L x0 ++ (Cit ++ _))
    rw [e]
    exact List.perm_middle.symm
  have h4 := exF_close (p := p 0) (L := fun x => objF (w.heap.size + 1) (.loop (R .ready none)) :: L x) x0 hp0 (fun f hf => by
    rcases List.mem_cons.1 hf with rfl | hf
    · rfl
    · exact hLo 0 x0 hp0 f hf) h3
  have h5 : SAT ρ.w0 ρ.W ((S 0 :: Cit) ++ (objF w.heap.size (.deferred (some [])) :: E)) ((w.alloc (.deferred (some []))).alloc (.loop (R .ready none))) := by rw [hS]; exact h4
  have hlend : Lend (objF w.heap.size (.deferred (some [])) :: E) (viewsF V :: Vit) := (Lend.views hVn hV hVit).tail
  obtain ⟨O1, hpre, hpost⟩ := h5.call (List.Perm.refl _) hlend
  have hY : ∀ i, i < m → YieldS X.P (w.heap.size + 1) (Ea i) ([S i] ++ (viewsF V :: Ev i)) (fun r D' => (r = .bool true ∧ D' = [S (i + 1)]) ∨ (r = .bool false ∧ D' = [Sx])) := by
    intro i hi w1 W1 hs
    rw [hS] at hs
    obtain ⟨x, hpx, hs⟩ := exF_open (D := viewsF V :: Ev i) hs
    have hs2 : SAT w1 W1 (objF (w.heap.size + 1) (.loop (R .ready none)) :: L x ++ (V ++ Ev i)) w1 := by
      have hv := viewsF_open hVn (hs.perm List.perm_middle)
      refine hv.perm ?_
      have e : objF (w.heap.size + 1) (.loop (R .ready none)) :: L x ++ (V ++ Ev i) = ((objF (w.heap.size + 1) (.loop (R .ready none)) :: L x) ++ V) ++ Ev i := by rw [List.append_assoc]
      rw [e, ← List.append_assoc]
      exact List.perm_append_comm.append_right _
    obtain ⟨_, hl, _⟩ := hs2.head
    have hsz : (Ea i).toArray.size = (R .ready none).params.size := by rw [hR]; simpa using hps i
    refine ⟨_, _, _, _, run_yield hl hsz, ?_⟩
    have hput := putAll_at (l := ps.toList.zip (Ea i)) (t := t) (tmps := a.tmps) (N := X.N) (fun pr hpr => by
      have hm := (List.of_mem_zip hpr).1
      exact Nat.le_of_ble_eq_true (List.all_eq_true.1 hpN pr.1 hm)) ha.size ha.at_
    have hfold : ((R .ready none).params.zip (Ea i).toArray).foldl (fun tmps (x : Tmp × Value) => tmps.setIfInBounds x.1 x.2) (R .ready none).tmps = (ps.toList.zip (Ea i)).foldl (fun t (x : Nat × Value) => t.setIfInBounds x.1 x.2) a.tmps := by
      rw [hR, ← Array.foldl_toList]
      simp
    have hgo := hround (w.heap.size + 1) R i x hi hpx ⟨w1, W1, []⟩ { tmps := (ps.toList.zip (Ea i)).foldl (fun t (x : Nat × Value) => t.setIfInBounds x.1 x.2) a.tmps, defers := [] } w1 ⟨⟨List.nodup_nil, fun b hb => by cases hb⟩, rfl, hput.1, hput.2⟩ hs2
    have hR1 : (R .ready none).assign = assign := by rw [hR]
    have hR2 : (R .ready none).body = body := by rw [hR]
    rw [hR1, hR2]
    have fin : ∀ (ρ1 : Root) (G : List Fact) (w' : World), Ext ⟨w1, W1, []⟩ ρ1 → SAT ρ1.w0 ρ1.W G w' → SAT w1 W1 G w' := fun ρ1 G w' hx hs => by
      have h := hx G w' (hs.monoW (fun _ h => .inl h))
      exact h.monoW (fun b hb => hb.elim id (fun h => by cases h))
    refine roundIn_of_wpIn trivial ?_
    have e0 : ((R .ready none).params.zip (Ea i).toArray).foldl (fun tmps (t, a) => tmps.setIfInBounds t a) (R .ready none).tmps = (ps.toList.zip (Ea i)).foldl (fun t (x : Nat × Value) => t.setIfInBounds x.1 x.2) a.tmps := hfold
    rw [e0]
    refine wpIn_mono hgo ?_
    rintro e a1 w2 ⟨ρ1, t1, D1, hx1, ha1, hs1, hk1⟩
    cases e with
    | normal =>
      obtain ⟨k0, hk0, hrun⟩ := hk1
      have hp1 := hs1.pull hk0
      obtain ⟨_, hl1, _⟩ := hp1.head
      have hb1 := run_beginRound (P := X.P) hl1 (by rw [hR])
      have hob := hp1.obj (.loop (R .busy none))
      have hRb : ({ R .ready none with state := .busy } : Loop) = R .busy none := by rw [hR]
      rw [hRb] at hb1
      refine ⟨_, hb1, wpIn_mono (hrun ρ1 a1 _ ha1 hob) ?_⟩
      rintro e a2 w3 ⟨ρ2, t2, D2, hx2, ha2, hs2, hk2⟩
      have hx := hx1.trans hx2
      cases e with
      | normal =>
        obtain ⟨x', hp', hsel⟩ := hk2
        have h6 := hsel _ _ _ hs2
        obtain ⟨_, hl2, _⟩ := h6.head
        have hend := run_endRound (P := X.P) none hl2
        have hRe : ({ R .busy none with state := if (none : Option Code).isNone then .ready else .done, pending := none } : Loop) = R .ready none := by rw [hR]; rfl
        rw [hRe] at hend
        have h7 := fin ρ2 _ _ hx (h6.obj (.loop (R .ready none)))
        refine ⟨_, _, hend, _, [S (i + 1)], rfl, .inl ⟨rfl, rfl⟩, fun f hf => by rw [List.mem_singleton.1 hf]; exact hSo _, ?_⟩
        rw [hS]
        refine exF_close (p := p (i + 1)) (L := fun x => objF (w.heap.size + 1) (.loop (R .ready none)) :: L x) x' hp' (fun f hf => ?_) (by simpa using h7)
        rcases List.mem_cons.1 hf with rfl | hf
        · rfl
        · exact hLo _ x' hp' f hf
      | ret =>
        obtain ⟨hc, y, hq, hsel⟩ := hk2
        have h6 := hsel _ _ _ hs2
        obtain ⟨_, hl2, _⟩ := h6.head
        have hend := run_endRound (P := X.P) (some .ret) hl2
        have hRe : ({ R .busy none with state := if (some Code.ret : Option Code).isNone then .ready else .done, pending := some .ret } : Loop) = R .done (some c) := by rw [hR, hc]; rfl
        rw [hRe] at hend
        have h7 := fin ρ2 _ _ hx (h6.obj (.loop (R .done (some c))))
        refine ⟨_, _, hend, _, [Sx], rfl, .inr ⟨rfl, rfl⟩, fun f hf => by rw [List.mem_singleton.1 hf]; exact hSxo, ?_⟩
        rw [hSx]
        refine exF_close (p := q) (L := fun y => objF (w.heap.size + 1) (.loop (R .done (some c))) :: M y) y hq (fun f hf => ?_) (by simpa using h7)
        rcases List.mem_cons.1 hf with rfl | hf
        · rfl
        · exact hMo y hq f hf
      | exit j =>
        obtain ⟨hc, y, hq, hsel⟩ := hk2
        have h6 := hsel _ _ _ hs2
        obtain ⟨_, hl2, _⟩ := h6.head
        have hend := run_endRound (P := X.P) (some (.exit j)) hl2
        have hRe : ({ R .busy none with state := if (some (Code.exit j) : Option Code).isNone then .ready else .done, pending := some (.exit j) } : Loop) = R .done (some c) := by rw [hR, hc]; rfl
        rw [hRe] at hend
        have h7 := fin ρ2 _ _ hx (h6.obj (.loop (R .done (some c))))
        refine ⟨_, _, hend, _, [Sx], rfl, .inr ⟨rfl, rfl⟩, fun f hf => by rw [List.mem_singleton.1 hf]; exact hSxo, ?_⟩
        rw [hSx]
        refine exF_close (p := q) (L := fun y => objF (w.heap.size + 1) (.loop (R .done (some c))) :: M y) y hq (fun f hf => ?_) (by simpa using h7)
        rcases List.mem_cons.1 hf with rfl | hf
        · rfl
        · exact hMo y hq f hf
      | goto l => exact hk2.elim
      | panic ch => exact hk2.elim
      | outgrown => exact hk2.elim
    | _ => exact hk1.elim
  have hcalls := hit (w.heap.size + 1) (viewsF V) Sx S rfl hSxo hSo hY
  obtain ⟨⟨gfn, gcb, hf, hb, hname⟩, hcalls⟩ := hcalls
  have hcalls := hcalls _ O1 hpre
  have hR0 : (Obj.loop { state := .ready, pending := none, fn, tmps := a.tmps, params := ps, assign, body, defers := w.heap.size } : Obj) = .loop (R .ready none) := by rw [hR]
  have hok' : ∀ (ρ' : Root), ρ'.OK → ρ'.ds = w.heap.size :: ρ.ds → EnvOK X.N ρ' t { a with defers := [{ target := .collected w.heap.size, args := #[] }] ++ a.defers } := fun ρ' h1 h2 => ⟨h1, by rw [h2]; simp only [List.map_cons, ha.defers]; rfl, ha.size, ha.at_⟩
  refine ⟨w.heap.size + 1, [{ target := .collected w.heap.size, args := #[] }], (w.alloc (.deferred (some []))).alloc (.loop (R .ready none)), { target := .fn (.func gf) cap.toArray, args := #[.func (.yield (w.heap.size + 1)) #[] #[]] }, (w.alloc (.deferred (some []))).alloc (.loop (R .ready none)), gf,
    #[.func (.yield (w.heap.size + 1)) #[] #[]] ++ cap.toArray, (w.alloc (.deferred (some []))).alloc (.loop (R .ready none)), ?_, ?_, fun f' _ => by rw [hF]; trivial, ?_, fun h => by rw [hF] at h; simp [Fence.wide] at h, ?_⟩
  · rw [← hR0]
    exact run_enterLoop_outer _ _ _ _ _
  · simp only [resolve, ha.ev hg]
    simp [go_sem]
  · simp [invoke, go_sem, callFunc, hf, hb, hname]
  · rw [hF]
    have e : (Value.func (.yield (w.heap.size + 1)) #[] #[] :: cap).toArray = #[.func (.yield (w.heap.size + 1)) #[] #[]] ++ cap.toArray := by simp
    rw [e] at hcalls
    refine (callsIn_wide (n := 0 - 1)).2 (hcalls.mono ?_)
    · rintro e w3 ⟨r, D', rfl, hD', hown, hs3⟩
      have h8 := hpost D' w3 hown hs3
      rcases hD' with rfl | rfl
      · rw [hS] at h8
        obtain ⟨x, hpx, h9⟩ := exF_open (D := objF w.heap.size (.deferred (some [])) :: E) h8
        obtain ⟨_, hl3, _⟩ := h9.head
        have hend := run_endLoop (P := X.P) hl3 (by rw [hR]; simp)
        have hpend : (R .ready none).pending = none := by rw [hR]
        have hend := hend.trans (congrArg (fun x => Result.ok x _) hpend)
        refine ⟨none, _, hend, ?_⟩
        have h10 := (h9.obj (.loop { R .ready none with state := .exhausted })).tail
        obtain ⟨ρ', hx, hok, hds, h11⟩ := SAT.reroot (h10.perm List.perm_middle) ha.ok
        exact ⟨ρ', t, L x ++ E, hx, hok' ρ' hok hds, h11, hdone x hpx⟩
      · rw [hSx] at h8
        obtain ⟨y, hq, h9⟩ := exF_open (D := objF w.heap.size (.deferred (some [])) :: E) h8
        obtain ⟨_, hl3, _⟩ := h9.head
        have hend := run_endLoop (P := X.P) hl3 (by rw [hR]; simp)
        have hpend : (R .done (some c)).pending = some c := by rw [hR]
        have hend := hend.trans (congrArg (fun x => Result.ok x _) hpend)
        refine ⟨some c, _, hend, ?_⟩
        have h10 := (h9.obj (.loop { R .done (some c) with state := .exhausted })).tail
        obtain ⟨ρ', hx, hok, hds, h11⟩ := SAT.reroot (h10.perm List.perm_middle) ha.ok
        have hgo := hstop y hq ρ' _ _ (hok' ρ' hok hds) h11
        rw [hF] at hgo
        exact wpIn_mono hgo (fun e a w hd => den_mono hx (fun _ _ _ hk => hk) hd)
end
section
variable {X : Cx} {K : Post} {t : Env} {D : List Fact} {α β : Type} {l : Nat} {R : LoopState → Option Code → Loop} {p : α → Prop} {L : α → List Fact} {c : Code} {q : β → Prop} {M : β → List Fact}
theorem kassign_n (k0 : Nat) (h : D[k0]? = some (objF l (.loop (R .ready none)))) (hb : RunC X K c t (objF l (.loop (R .busy none)) :: D.eraseIdx k0)) : kassign X l R c K .normal t D := ⟨k0, h, hb⟩
theorem kyield_n (x : α) (ks : List Nat) (D' : List Fact) (hD : (pulls ks D).1 = D') (hp : p x) (he : D' = objF l (.loop (R .busy none)) :: L x) : kyield l R p L c q M .normal t D :=
  ⟨x, hp, fun _ _ _ hs => by rw [← he]; exact hs.sel ks D' hD⟩
theorem kyield_r (y : β) (ks : List Nat) (D' : List Fact) (hD : (pulls ks D).1 = D') (hp : q y) (he : D' = objF l (.loop (R .busy none)) :: M y) : kyield l R p L .ret q M .ret t D :=
  ⟨rfl, y, hp, fun _ _ _ hs => by rw [← he]; exact hs.sel ks D' hD⟩
end
end Go.Proofs.Ytlibhidhfbecbaa.SL

/- A cut: what holds behind a piece of code, told once. Arrays of numbers compared. -/
namespace Go.Proofs.Ytlibhidhfbecbaa.SL
set_option linter.unusedVariables false
open Go
section
variable {X : Cx} {K : Post} {t : Env} {D : List Fact} {ψ : Env → List Fact → Prop}
def kcut (ψ : Env → List Fact → Prop) (K : Post) : Post := fun e t D => match e with | .normal => ∃ t' D', (∀ p ∈ t', p ∈ t) ∧ (∀ w0 W w, SAT w0 W D w → SAT w0 W D' w) ∧ ψ t' D' | e => K e t D
theorem RunC.cut {c d : Code} (ψ : Env → List Fact → Prop) (h1 : RunC X (kcut ψ K) c t D) (h2 : ∀ t D, ψ t D → RunC X K d t D) : RunC X K (.seq c d) t D := by
  refine RunC.seq fun ρ a w ha hw => wpIn_mono (h1 ρ a w ha hw) fun e a w hd => den_mono (Ext.refl ρ) ?_ hd
  intro e t D h
  cases e with
  | normal => obtain ⟨t', D', hp, hs, hk⟩ := h; exact RunC.weaken t' D' hp hs (h2 t' D' hk)
  | _ => exact h
end
section
variable {P : Program}
end
section
variable {X : Cx} {U : Tab} (hU : U.OK X.P) {t : Env} {D : List Fact} {φ : Env → List Fact → Prop}
include hU
end
end Go.Proofs.Ytlibhidhfbecbaa.SL

/- A law's argument that is a slice of structs of a byte and a truth: its cells. -/
namespace Go.Proofs.Ytlibhidhfbecbaa.SL
set_option linter.unusedVariables false
open Go
abbrev Db := Int × Bool
def dosV : List Db → List Value
  | [] => []
  | r :: rs => .int .u8 r.1 :: .bool r.2 :: dosV rs
theorem dosV_len : ∀ rs : List Db, (dosV rs).length = rs.length * 2
  | [] => rfl
  | r :: rs => by rw [dosV, List.length_cons, List.length_cons, dosV_len rs, List.length_cons]; omega
theorem elem_at {A : Option Addr} {b o : Nat} (h : A = some ⟨b, o, none⟩) (i : Int) (s : Nat) : elemAt A i s = some ⟨b, o + i.toNat * s, none⟩ := by
  subst h
  simp only [elemAt, Option.map_some, Addr.add]
  split
  · rename_i h0; rw [h0, Nat.add_zero]
  · rfl
section
variable {X : Cx} {U : Tab} (hU : U.OK X.P) {t : Env} {D : List Fact} {φ : Env → List Fact → Prop}
include hU
end
end Go.Proofs.Ytlibhidhfbecbaa.SL

/- Rows that are owned together; a row of structs of a number and a slice; objects: what is owned, as one fact. -/
namespace Go.Proofs.Ytlibhidhfbecbaa.SL
set_option linter.unusedVariables false
open Go

def rws (k : IntKind) (G : List Ro) : Fact where
  own := true
  P := (vws (rowsL k G)).P
  loc := (vws (rowsL k G)).loc
  bnd := (vws (rowsL k G)).bnd
theorem tells_rws {k : IntKind} {G : List Ro} {A : Option Addr} {c : Nat} {xs : List Int} (h : (A, c, xs) ∈ G) : Tells (rws k G) A (nums k xs) := fun w fp hp =>
  tells_vws (L := rowsL k G) (List.mem_map.2 ⟨(A, c, xs), h, rfl⟩) w fp hp
theorem SAT.rws0 {w0 : World} {W : FP} {D : List Fact} {w : World} (k : IntKind) (h : SAT w0 W D w) : SAT w0 W (rws k [] :: D) w := by
  obtain ⟨fr, O, R, h1, h2, h3, h4⟩ := h
  refine ⟨fr, O, R, ⟨fun _ => False, ⟨fun _ h => h.elim, fun r hr => (by cases hr)⟩, ?_⟩, h2, h3, h4⟩
  exact ⟨fun _ h => h.elim, sat_mono h1 (fun b hb => ⟨hb, fun h => h⟩) (fun _ h => h)⟩
theorem SAT.rwsSub {w0 : World} {W : FP} {D : List Fact} {w : World} {k : IntKind} {G : List Ro} (h : SAT w0 W (rws k G :: D) w) (G' : List Ro) (hs : ∀ r ∈ G', r ∈ G) : SAT w0 W (rws k G' :: D) w :=
  h.turn (rws k G') rfl fun fp hp => ⟨hp.1, fun r hr h0 => by
    obtain ⟨r0, hr0, rfl⟩ := List.mem_map.1 hr
    exact hp.2 _ (List.mem_map.2 ⟨r0, hs r0 hr0, rfl⟩) h0⟩
theorem SAT.rwsPush {w0 : World} {W : FP} {D : List Fact} {w : World} {k : IntKind} {G : List Ro} {f : Fact} (A : Option Addr) (c : Nat) (xs : List Int) (hf : f.own = true) (ht : Tells f A (nums k xs)) (h : SAT w0 W (f :: rws k G :: D) w) : SAT w0 W (rws k ((A, c, xs) :: G) :: D) w := by
  obtain ⟨fr, O, R, ⟨fp, hp, h1⟩, h2, h3, h4⟩ := h
  rw [hf] at h1
  obtain ⟨ho, gp, hg, h5⟩ := h1
  have h5 : (∀ b, gp b → O b ∧ ¬ fp b) ∧ sat D w (fun b => (O b ∧ ¬ fp b) ∧ ¬ gp b) R := h5
  obtain ⟨q, hq, hv⟩ := ht w fp hp
  refine ⟨fr, O, R, ⟨fun b => q b ∨ gp b, ⟨fun b hb => hb.elim (hv.1 b) (hg.1 b), fun r hr h0 => ?_⟩, fun b hb => hb.elim (fun h => ho b (hq b h)) (fun h => (h5.1 b h).1), sat_mono h5.2 (fun b hb => ⟨hb.1.1, fun h => h.elim (fun h => hb.1.2 (hq b h)) hb.2⟩) (fun _ h => h)⟩, h2, h3, h4⟩
  rcases List.mem_cons.1 hr with rfl | hr
  · obtain ⟨a, e1, e2, e3⟩ := hv.2 h0
    exact ⟨a, e1, .inl e2, e3⟩
  · obtain ⟨a, e1, e2, e3⟩ := hg.2 r hr h0
    exact ⟨a, e1, .inr e2, e3⟩

abbrev Ch := Int × Ro
def chV : List Ch → List Value
  | [] => []
  | r :: rs => .int .i64 r.1 :: .slice r.2.1 r.2.2.2.length r.2.2.1 :: chV rs
theorem chV_len : ∀ rs : List Ch, (chV rs).length = rs.length * 2
  | [] => rfl
  | r :: rs => by rw [chV, List.length_cons, List.length_cons, chV_len rs, List.length_cons]; omega
theorem chV_append : ∀ a b : List Ch, chV (a ++ b) = chV a ++ chV b
  | [], b => rfl
  | r :: a, b => by rw [List.cons_append, chV, chV, chV_append a b]; rfl
theorem chV_get : ∀ {rs : List Ch} {i : Nat} {k : Int} {A : Option Addr} {c : Nat} {xs : List Int}, rs[i]? = some (k, A, c, xs) → ((chV rs).drop (i * 2)).take 2 = [.int .i64 k, .slice A xs.length c]
  | [], i, k, A, c, xs, h => by simp at h
  | r :: rs, 0, k, A, c, xs, h => by
    simp only [List.getElem?_cons_zero, Option.some.injEq] at h
    subst h
    rfl
  | r :: rs, i + 1, k, A, c, xs, h => by
    rw [List.getElem?_cons_succ] at h
    rw [show (i + 1) * 2 = i * 2 + 1 + 1 by omega, chV, List.drop_succ_cons, List.drop_succ_cons]
    exact chV_get h
theorem chV_one : ∀ {rs : List Ch}, ∀ u ∈ chV rs, u.oneCell' = true
  | [], u, h => by cases h
  | r :: rs, u, h => by
    rcases List.mem_cons.1 h with rfl | h
    · rfl
    · rcases List.mem_cons.1 h with rfl | h
      · rfl
      · exact chV_one u h
def ChOK (k : IntKind) (rs : List Ch) : Prop := ∀ r ∈ rs, fits .i64 r.1 ∧ In k r.2.2.2 ∧ r.2.2.2.length ≤ r.2.2.1 ∧ r.2.2.2.length ≤ 140737488351232
theorem ch_at {k : IntKind} {rs : List Ch} (h : ChOK k rs) {i : Nat} (hi : i < rs.length) : ∃ b A c xs, rs[i]? = some (b, A, c, xs) ∧ fits .i64 b ∧ In k xs ∧ xs.length ≤ c ∧ xs.length ≤ 140737488351232 :=
  ⟨rs[i].1, rs[i].2.1, rs[i].2.2.1, rs[i].2.2.2, List.getElem?_eq_getElem hi, h _ (List.getElem_mem hi)⟩
theorem ChOK.nil (k : IntKind) : ChOK k [] := fun r hr => by cases hr
theorem ChOK.append {k : IntKind} {a b : List Ch} (h : ChOK k a) (g : ChOK k b) : ChOK k (a ++ b) := fun r hr => (List.mem_append.1 hr).elim (h r) (g r)
theorem ChOK.one {k : IntKind} {b : Int} {A : Option Addr} {c : Nat} {xs : List Int} (h0 : fits .i64 b) (h1 : In k xs) (h2 : xs.length ≤ c) (h3 : xs.length ≤ 140737488351232) : ChOK k [(b, A, c, xs)] := fun r hr => by
  rcases List.mem_cons.1 hr with rfl | hr
  · exact ⟨h0, h1, h2, h3⟩
  · cases hr
theorem loadv_ch {U : Tab} {ty : TypeId} {rs : List Ch} {i : Nat} {b : Int} {c : Nat} {A : Option Addr} {xs : List Int} (hty : isRowTy U ty = some true) (hsz : look U.sz ty = some 2) (h : rs[i]? = some (b, A, c, xs)) : loadv U ty (chV rs) (i * 2) = some (.agg #[.int .i64 b, .slice A xs.length c]) := by
  unfold loadv
  rw [hty, hsz]
  have hi := (List.getElem?_eq_some_iff.1 h).1
  have : Nat.ble (i * 2 + 2) (chV rs).length = true := Nat.ble_eq_true_of_le (by rw [chV_len]; omega)
  simp only [this, chV_get h]
section
variable {X : Cx} {U : Tab} (hU : U.OK X.P) {t : Env} {D : List Fact} {φ : Env → List Fact → Prop}
include hU
theorem Step.cap {d : Nat} {ty : TypeId} {x : Operand} (e : Nat) (A : Option Addr) (n c : Nat) (hty : look U.und ty = some (.slice e)) (hx : ev t x = some (.slice A n c)) (hd : Nat.ble (d + 1) X.N = true)
    (k : φ (put t d (.int .i64 (c : Int))) D) : Step X (some d) (.call { callee := .builtin .cap, args := #[x], argTypes := #[ty] }) t D φ := by
  intro o hdst hop ρ a w ha hw Q K hK
  have hr : (execOp a.eval o).run X.P w = .ok (.value (.int .i64 (c : Int))) w := by
    unfold execOp
    simp only [hop, resolve, invoke, builtin, Sem.run_bind, Sem.run_pure, Result.andThen_ok, List.map_toArray, List.map_cons, List.map_nil]
    simp [Builtin.cap_, ha.ev hx, hU.run_und hty, goInt]
  refine wp_val hr (hK _ _ _ _ ?_ hw k)
  rw [hdst]
  exact ha.put (Nat.le_of_ble_eq_true hd) _
end
section
variable {X : Cx} {U : Tab} {K : Post} {t : Env} {D : List Fact} {ops : Array Oper} {i : Nat}
end

def chd (k : IntKind) (ws : List Ch) : Fact := rws k (ws.map (·.2))
theorem tells_chd {k : IntKind} {rs : List Ch} {i : Nat} {b : Int} {c : Nat} {A : Option Addr} {xs : List Int} (h : rs[i]? = some (b, A, c, xs)) : Tells (chd k rs) A (nums k xs) :=
  tells_rws (c := c) (List.mem_map.2 ⟨(b, A, c, xs), List.mem_of_getElem? h, rfl⟩)
theorem SAT.chd0 {w0 : World} {W : FP} {D : List Fact} {w : World} (k : IntKind) (h : SAT w0 W D w) : SAT w0 W (chd k [] :: D) w := h.rws0 k
theorem SAT.chdPush {w0 : World} {W : FP} {D : List Fact} {w : World} {k : IntKind} {ws : List Ch} {f : Fact} (b : Int) (A : Option Addr) (c : Nat) (xs : List Int) (hf : f.own = true) (ht : Tells f A (nums k xs)) (h : SAT w0 W (f :: chd k ws :: D) w) : SAT w0 W (chd k (ws ++ [(b, A, c, xs)]) :: D) w :=
  (SAT.rwsPush (G := ws.map (·.2)) A c xs hf ht h).rwsSub _ (fun r hr => by
    rw [List.map_append, List.mem_append] at hr
    rcases hr with hr | hr
    · exact List.mem_cons_of_mem _ hr
    · rw [List.map_cons, List.map_nil, List.mem_singleton] at hr
      rw [hr]
      exact List.mem_cons_self)
theorem SAT.pulls2 {w0 : World} {W : FP} {D : List Fact} {w : World} (ks : List Nat) (D' : List Fact) (hd : (pulls ks D).1 ++ (pulls ks D).2 = D') (h : SAT w0 W D w) : SAT w0 W D' w := by
  rw [← hd]
  exact h.perm (pulls_perm ks D)
section
variable {X : Cx} {U : Tab} (hU : U.OK X.P) {t : Env} {D : List Fact} {φ : Env → List Fact → Prop}
include hU
theorem Step.load_of {d : Nat} {ty : TypeId} {x : Operand} (k0 : Nat) (f : Fact) (A : Option Addr) (i : Int) (s : Nat) (cs : List Value) (v : Value) (hx : ev t x = some (.pointer (elemAt A i s))) (hD : D[k0]? = some f) (ht : Tells f A cs) (hv : loadv U ty cs (i.toNat * s) = some v)
    (hd : Nat.ble (d + 1) X.N = true) (hlt : i.toNat * s < cs.length) (k : φ (put t d v) D) : Step X (some d) (.load ty x) t D φ := by
  intro op hdst hop ρ a w ha hw Q K hK
  obtain ⟨fp, hp⟩ := hw.get k0 hD
  obtain ⟨q, _, _, hh⟩ := ht w fp hp
  obtain ⟨ad, rfl, _, hc⟩ := hh (by omega)
  have hr : (execOp a.eval op).run X.P w = .ok (.value v) w := by
    unfold execOp
    simp only [hop, ha.ev hx]
    have := run_loadv hU (X := X) hv (a := ad.add (i.toNat * s)) (w := w) (fun j u hu => by
      rcases Nat.eq_zero_or_pos (i.toNat * s) with h0 | h0
      · rw [h0] at hu ⊢
        have := hc (0 + j) u hu
        simpa [Addr.add] using this
      · rcases Nat.eq_zero_or_pos j with h1 | h1
        · subst h1
          have := hc _ u hu
          simpa [Addr.add] using this
        · have := hc _ u hu
          have e : (ad.add (i.toNat * s)).add j = ad.add (i.toNat * s + j) := by
            unfold Addr.add
            rw [if_neg (by omega), if_neg (by omega), if_neg (by omega)]
            simp [Nat.add_assoc]
          rw [e]
          exact this)
    rw [Sem.run_bind]
    rw [show elemAt (some ad) i s = some (ad.add (i.toNat * s)) from rfl, this]
    rfl
  refine wp_val hr (hK _ _ _ _ ?_ hw k)
  rw [hdst]
  exact ha.put (Nat.le_of_ble_eq_true hd) _
theorem Step.lit_pair {d : Nat} {ty : TypeId} {x : Operand} (e by_ : Nat) (z u v : Value) (hty : look U.und ty = some (.slice e)) (hti : look U.ti e = some (2, by_, z)) (hx : ev t x = some (.agg #[u, v])) (hu : u.oneCell' = true) (hv : v.oneCell' = true) (hd : Nat.ble (d + 1) X.N = true)
    (k : ∀ b, φ (put t d (.slice (some ⟨b, 0, none⟩) 1 1)) (row e 2 (.slice (some ⟨b, 0, none⟩) 1 1) 1 [u, v] :: D)) : Step X (some d) (.buildSlice ty 1 #[(0, x)]) t D φ := by
  intro o hdst hop ρ a w ha hw Q K hK
  obtain ⟨i, hi, h1, h2, h3⟩ := hU.ti _ (look_mem hti)
  simp only at hi h1 h2 h3
  have hund := hU.und _ (look_mem hty)
  simp only at hund
  have hfill : ∀ cells : Array Value, cells.size = 2 → Instr.fill (fun i => some (i * 2, 2)) cells [(0, .agg #[u, v])] = some #[u, v] := by
    rintro ⟨l⟩ hc
    match l, hc with
    | [p, q], _ => simp [Instr.fill, Value.cells]
  have hr : (execOp a.eval o).run X.P w = .ok (.value (.slice (some ⟨w.heap.size, 0, none⟩) 1 1)) (w.alloc (.cells #[u, v] e (0, 0))) := by
    unfold execOp
    simp only [hop, Instr.buildSlice, Sem.run_bind, run_underlying hund, Result.andThen_ok, sizeOf, typeInfo, run_program, hi, h1, Sem.run_pure, Sem.run_ite, zeroValue, h3]
    have e1 : (Array.map (fun p : Nat × Operand => (p.1, a.eval p.2)) #[(0, x)]).toList = [(0, .agg #[u, v])] := by simp [ha.ev hx]
    rw [e1]
    simp [newRow]
    rw [hfill _ (by simp)]
    simp
  have hs := hw.alloc _ (blk w.heap.size e [u, v]) rfl (blk_new w e _)
  have hs2 := SAT.row_of_blk (s := 2) (n := 1) (cap := 1) hs (Nat.le_refl _) (by simp only [maxLen]; omega) (by simp)
  rw [List.take_of_length_le (by simp)] at hs2
  refine wp_val hr (hK _ _ _ _ ?_ hs2 (k w.heap.size))
  rw [hdst]
  exact ha.put (Nat.le_of_ble_eq_true hd) _
theorem Step.append_ch {d : Nat} {ty : TypeId} {x y : Operand} (e by_ : Nat) (z : Value) (k0 k1 : Nat) (B : Option Addr) (n cap : Nat) (rs : List Ch) (A : Option Addr) (m c : Nat) (f : Fact) (qs : List Ch)
    (hty : look U.und ty = some (.slice e)) (hti : look U.ti e = some (2, by_, z)) (hzs : Nat.beq z.cells.size 2 = true)
    (hx : ev t x = some (.slice B n cap)) (hy : ev t y = some (.slice A m c)) (hD : D[k0]? = some (row e 2 (.slice B n cap) n (chV rs))) (hf : D[k1]? = some f) (hfu : Tells f A (chV qs))
    (hm : qs.length = m) (h63 : n + m ≤ 140737488355328) (hb : (n + m) * by_ ≤ 140737488355328) (hd : Nat.ble (d + 1) X.N = true)
    (k : ∀ B' cap', n + m ≤ cap' → (0 < n + m → B'.isSome = true) → φ (put t d (.slice B' (n + m) cap')) (row e 2 (.slice B' (n + m) cap') (n + m) (chV (rs ++ qs)) :: D.eraseIdx k0)) :
    Step X (some d) (.call { callee := .builtin .append, args := #[x, y], argTypes := #[ty, ty] }) t D φ := by
  subst hm
  intro o hdst hop ρ a w ha hw Q K hK
  refine Step.append (φ := fun t' D' => ∃ B' cap', t' = put t d (.slice B' (n + qs.length) cap') ∧ (0 < n + qs.length → B'.isSome = true) ∧ D' = row e 2 (.slice B' (n + qs.length) cap') (n + qs.length) (chV (rs ++ qs)) :: D.eraseIdx k0) hU e 2 by_ z k0 k1 _ n (chV rs) A qs.length c f (chV qs) hty hti (Nat.eq_of_beq_eq_true hzs) (by decide) hx hy hD hf hfu (chV_len _) chV_one h63 hb hd (fun v' hv' => ?_) o hdst hop ρ a w ha hw Q K (fun t' D' a' w' h1 h2 h3 => ?_)
  · rw [← chV_append]
    obtain ⟨B', cap', rfl, hs⟩ := hv'
    exact ⟨B', cap', rfl, hs, rfl⟩
  · obtain ⟨B', cap', rfl, hs, rfl⟩ := h3
    refine hK _ _ _ _ h1 h2 (k B' cap' ?_ hs)
    obtain ⟨fp, hp⟩ := h2.head
    rcases hp.2.2 with ⟨h4, h5⟩ | ⟨b, cp, ex, h4, _, h5, _⟩
    · injection h4 with _ _ e3
      omega
    · injection h4 with _ _ e3
      omega
end

def bls (ks : List Bool) : List Value := ks.map .bool
theorem bls_len (ks : List Bool) : (bls ks).length = ks.length := List.length_map _
theorem bls_get {ks : List Bool} {i : Nat} (h : i < ks.length) : (bls ks)[i]? = some (.bool (ks.getD i false)) := by
  rw [bls, List.getElem?_map, List.getElem?_eq_getElem h, List.getD_eq_getElem?_getD, List.getElem?_eq_getElem h]
  rfl
theorem loadv_bls {U : Tab} {ty : TypeId} {ks : List Bool} {i : Nat} (hty : isRowTy U ty = some false) (h : i < ks.length) : loadv U ty (bls ks) (i * 1) = some (.bool (ks.getD i false)) := by
  unfold loadv
  rw [hty, Nat.mul_one]
  exact bls_get h
section
variable {X : Cx} {U : Tab} (hU : U.OK X.P) {t : Env} {D : List Fact} {φ : Env → List Fact → Prop}
include hU
end

section
variable {H : Type} {enc : TypeId × Value → H} {P : Program} {w : World} {base : Nat} {spare : Nat → Bool} {held : Bool}
end
end Go.Proofs.Ytlibhidhfbecbaa.SL

/- Regions whose order is drawn: whichever of many operations comes first; what holds of the rest, told by name. -/
namespace Go.Proofs.Ytlibhidhfbecbaa.SL
set_option linter.unusedVariables false
open Go
section
variable {X : Cx} {K : Post} {ops : Array Oper} {Θ : List Fact} {ds : List Nat} {fuel : Nat} {l : Array Bool} {t : Env} {D : List Fact}
theorem RunU.name (h : ∀ R, R = RunU X K ops Θ ds → R fuel l t D) : RunU X K ops Θ ds fuel l t D := h _ rfl
theorem RunU.any (L : List Nat) (hL : (Region.ready .any ops l == L) = true) (hne : L.isEmpty = false)
    (h : ∀ j ∈ L, ∃ (dst : Option Tmp) (op : Op) (l' : Array Bool) (ks : List Nat), opInfo ops j t = some (dst, op) ∧ (l.setIfInBounds j true == l') = true ∧ Step X dst op t D (fun t' D' => (atAll D' ks = some Θ ∨ onList ds j = true) ∧ RunU X K ops Θ ds fuel l' t' D')) : RunU X K ops Θ ds (fuel + 1) l t D := by
  have hr : Region.ready .any ops l = L := by simpa using hL
  intro ρ a w ha hw
  refine ⟨fun h0 => (by rw [hr] at h0; rw [h0] at hne; cases hne), fun k hk => ?_⟩
  rw [hr] at hk
  obtain ⟨dst, op, l', ks, h1, h2, hs⟩ := h k hk
  have h2 : l.setIfInBounds k true = l' := by simpa using h2
  subst h2
  obtain ⟨o, ho, hg, hdst, hop⟩ := opInfo_spec h1
  unfold wpOp
  simp only [ho, gd_sound ha hg, if_true]
  refine .inl (hs o hdst hop ρ a w ha hw _ _ (fun t' D' a' w' h3 h4 h5 => ⟨fun hn _ => ?_, h5.2 ρ a' w' h3 h4⟩)).2
  rcases h5.1 with h6 | h6
  · exact atAll_sat h4 h6
  · exact absurd (onList_mem h6) hn
theorem all_cons {P : Nat → Prop} {i : Nat} {L : List Nat} (h : P i) (g : ∀ j ∈ L, P j) : ∀ j ∈ i :: L, P j := fun j hj => by
  rcases List.mem_cons.1 hj with rfl | hj
  · exact h
  · exact g j hj
end
end Go.Proofs.Ytlibhidhfbecbaa.SL

/- A region whose order is drawn, in a round of a loop over a function: only values, and what comes alone. -/
namespace Go.Proofs.Ytlibhidhfbecbaa.SL
set_option linter.unusedVariables false
open Go
def noDefer (ops : Array Oper) : Bool := ops.all fun o => match o.op with | .defer _ => false | _ => true
def noCall (ops : Array Oper) (i : Nat) : Bool := match ops[i]? with | some o => (match o.op with | .call c => (match c.callee with | .builtin _ => true | _ => false) | _ => true) | none => false
section
variable {X : Cx} {K : Post} {ops : Array Oper} {U : Tab} (hU : U.OK X.P) {t : Env} {D : List Fact} {Θ : List Fact} {ds : List Nat} {fuel : Nat} {l : Array Bool}
theorem uponIn_of_upon {o : Oper} {a : Act} {next : Act → World → Prop} {Q : Exit → Act → World → Prop} {r : Result Next} (h : o.upon X.P a next Q r) : o.uponIn Fence.wide 0 X.P a next Q r := by
  cases r with
  | ok x w =>
    cases x <;> simp only [Oper.upon, Oper.uponIn] at h ⊢ <;> first
      | exact h
      | exact ⟨fun h => by simp [Fence.wide] at h, (callsIn_wide (n := 0 - 1)).2 h⟩
      | exact ⟨fun h => by simp [Fence.wide] at h, fun c cs _ => by obtain ⟨v, w', r, s⟩ := h c cs; exact ⟨v, w', r, stepsIn_wide.2 s⟩⟩
  | halt x w => cases x <;> simp only [Oper.upon, Oper.uponIn] at h ⊢ <;> exact h
theorem uponIn_X {o : Oper} {a : Act} {next next' : Act → World → Prop} {Q : Exit → Act → World → Prop} {r : Result Next} (hn : ∀ a w, next a w → next' a w) (h : o.uponIn Fence.wide 0 X.P a next Q r) : o.uponIn X.F 0 X.P a next' Q r := by
  cases r with
  | ok x w =>
    cases x <;> simp only [Oper.uponIn] at h ⊢
    case value => exact hn _ _ h
    case skip => exact hn _ _ h
    case defer => exact hn _ _ h
    case enter => exact ⟨h.1, CallsIn.mono (F := Fence.wide) h.2 fun e w'' he => by cases e <;> first | exact hn _ _ he | exact he⟩
    case row => exact ⟨h.1, RowsIn.mono (F := Fence.wide) h.2 fun _ _ he => hn _ _ he⟩
    case round => exact ⟨h.1, RoundIn.mono (F := Fence.wide) h.2 fun e w'' he => by cases e <;> first | exact hn _ _ he | exact he⟩
  | halt x w => cases x <;> simp only [Oper.uponIn] at h ⊢ <;> exact h
theorem wpAnyIn_X (hd : noDefer ops = true) {Q : Exit → Act → World → Prop} : ∀ (fuel : Nat) (listed : Array Bool) (a : Act) (w : World), wpAnyIn Fence.wide 0 X.P .any ops Q fuel listed a w → wpAnyIn X.F 0 X.P .any ops Q fuel listed a w
  | 0, _, _, _, h => h
  | fuel + 1, _, a, w, h => ⟨h.1, fun i hi => by
      have h2 := h.2 i hi
      unfold wpOpIn at h2 ⊢
      split
      · rename_i h0
        simp only [h0] at h2
        exact wpAnyIn_X hd fuel _ _ _ h2
      · rename_i o ho
        simp only [ho] at h2
        split
        · rename_i hw
          simp only [hw, if_true] at h2
          have hn : ∀ c, o.op ≠ .defer c := fun c hc => by
            have := Array.all_eq_true'.1 hd o (Array.mem_of_getElem? ho)
            simp [hc] at this
          refine ⟨fun f _ => trivial, ?_⟩
          rw [Oper.semAt_eq _ _ _ hn]
          exact uponIn_X (fun a w => wpAnyIn_X hd fuel _ a w) h2.2
        · rename_i hw
          simp only [hw] at h2
          exact ⟨fun f _ => trivial, wpAnyIn_X hd fuel _ _ _ h2.2⟩⟩
def RunV (X : Cx) (K : Post) (ops : Array Oper) (Θ : List Fact) (ds : List Nat) (fuel : Nat) (l : Array Bool) (t : Env) (D : List Fact) : Prop :=
  ∀ ρ a w, EnvOK X.N ρ t a → SAT ρ.w0 ρ.W D w → wpAnyIn Fence.wide 0 X.P .any ops (den X ρ K) fuel l a w
include hU
theorem RunC.regionV {id : Nat} (n : Nat) (Θ : List Fact) (ks : List Nat) (ds : List Nat) (l : Array Bool) (hn : Nat.beq ops.size n = true) (hl : Array.replicate n false = l) (hks : atAll D ks = some Θ) (h : RunV X K ops Θ ds n l t D) (hd : noDefer ops = true := by kernel_rfl) : RunC X K (.region id ops true) t D := by
  intro ρ a w ha hw
  obtain rfl := Nat.eq_of_beq_eq_true hn
  subst hl
  exact wpIn_region_any hU.mixed (wpAnyIn_X hd _ _ _ _ (h ρ a w.drew ha hw.drew))
theorem RunV.sil (nw : Bool) (i : Nat) (l' : Array Bool) (d : Nat) (v : Value) (C : Prop) (h : silu U nw ops i t = some (d, v, C)) (hC : C) (hc : takeOK ops l l' i = true) (hd : Nat.ble (d + 1) X.N = true)
    (hQ : ∀ c t D, K (.panic c) t D → False) (k : RunV X K ops Θ ds fuel l' (put t d v) D) (hcl : noCall ops i = true := by kernel_rfl) : RunV X K ops Θ ds (fuel + 1) l t D := by
  simp only [takeOK, Bool.and_eq_true, beq_iff_eq] at hc
  obtain ⟨⟨⟨h1, h2⟩, h3⟩, h4⟩ := hc
  subst h4
  intro ρ a w ha hw
  unfold silu at h
  split at h
  · cases h
  · rename_i o ho
    have hab : ∀ w, o.about X.P w a.eval = none := fun w => by
      unfold noCall at hcl
      rw [ho] at hcl
      unfold Oper.about
      cases hop : o.op with
      | call c =>
        simp only [hop] at hcl ⊢
        cases hc : c.callee with
        | builtin b =>
          unfold resolve
          simp only [hc]
          rfl
        | _ => simp [hc] at hcl
      | _ => rfl
    have key : ∀ (v : Value), o.dst = some d → Yields X.P ops o v a → RunV X K ops Θ ds fuel (l.setIfInBounds i true) (put t d v) D → wpAnyIn Fence.wide 0 X.P .any ops (den X ρ K) (fuel + 1) l a w := by
      intro v hdst hy k
      refine wpAnyIn_take rfl ho h1 h2 h3 (fun c a w hq => ?_) ⟨hy, hab⟩ ?_
      · obtain ⟨_, _, _, _, _, _, hk⟩ := hq; exact (hQ _ _ _ hk).elim
      · rw [hdst]; exact k ρ _ w (ha.put (Nat.le_of_ble_eq_true hd) v) hw
    split at h
    · rename_i d' hg hdst
      cases nw with
      | true =>
        simp only at h
        cases hs : silw U o.op t with
        | none => rw [hs] at h; cases h
        | some p =>
          obtain ⟨v', C'⟩ := p
          rw [hs] at h
          simp only [Option.some.injEq, Prod.mk.injEq] at h
          obtain ⟨rfl, rfl, rfl⟩ := h
          obtain ⟨C2, hC2, hs2⟩ := silw_sil1 hs hC
          exact key v' hdst (.inl ⟨gd_sound ha hg, fun w => sil1_sound hU ha w hs2 hC2⟩) k
      | false =>
        simp only at h
        cases hs : sil1 U o.op t with
        | none => rw [hs] at h; cases h
        | some p =>
          obtain ⟨v', C'⟩ := p
          rw [hs] at h
          simp only [Option.some.injEq, Prod.mk.injEq] at h
          obtain ⟨rfl, rfl, rfl⟩ := h
          exact key v' hdst (.inl ⟨gd_sound ha hg, fun w => sil1_sound hU ha w hs hC⟩) k
    · rename_i d' hg hdst
      simp only [Option.some.injEq, Prod.mk.injEq] at h
      obtain ⟨rfl, rfl, rfl⟩ := h
      exact key undef hdst (.inr ⟨gd_sound ha hg, rfl⟩) k
    · cases h
omit hU in
theorem RunV.one (i : Nat) (l' : Array Bool) {dst : Option Tmp} {op : Op} (ks : List Nat) (h : opInfo ops i t = some (dst, op)) (hc : oneOK ops l l' i = true)
    (hs : Step X dst op t D (fun t' D' => (atAll D' ks = some Θ ∨ onList ds i = true) ∧ RunV X K ops Θ ds fuel l' t' D')) : RunV X K ops Θ ds (fuel + 1) l t D := by
  simp only [oneOK, Bool.and_eq_true, beq_iff_eq] at hc
  obtain ⟨h1, h2⟩ := hc
  subst h2
  obtain ⟨o, ho, hg, hdst, hop⟩ := opInfo_spec h
  intro ρ a w ha hw
  refine wpAnyIn_all h1 (by simp) fun j hj => ?_
  rw [List.mem_singleton] at hj
  subst hj
  unfold wpOpIn
  simp only [ho, gd_sound ha hg, if_true]
  exact ⟨fun _ _ => trivial, uponIn_of_upon (hs o hdst hop ρ a w ha hw _ _ (fun t' D' a' w' h3 h4 h5 => h5.2 ρ a' w' h3 h4)).2⟩
omit hU in
theorem RunV.two (i j : Nat) (li lj : Array Bool) {d1 d2 : Option Tmp} {o1 o2 : Op} (ks1 ks2 : List Nat) (hr : (Region.ready .any ops l == [i, j]) = true) (hl1 : (l.setIfInBounds i true == li) = true) (hl2 : (l.setIfInBounds j true == lj) = true) (h1 : opInfo ops i t = some (d1, o1)) (h2 : opInfo ops j t = some (d2, o2))
    (s1 : Step X d1 o1 t D (fun t' D' => (atAll D' ks1 = some Θ ∨ onList ds i = true) ∧ RunV X K ops Θ ds fuel li t' D'))
    (s2 : Step X d2 o2 t D (fun t' D' => (atAll D' ks2 = some Θ ∨ onList ds j = true) ∧ RunV X K ops Θ ds fuel lj t' D')) : RunV X K ops Θ ds (fuel + 1) l t D := by
  have hr : Region.ready .any ops l = [i, j] := by simpa using hr
  have hl1 : l.setIfInBounds i true = li := by simpa using hl1
  have hl2 : l.setIfInBounds j true = lj := by simpa using hl2
  subst hl1 hl2
  intro ρ a w ha hw
  refine wpAnyIn_all hr (by simp) fun k hk => ?_
  have fin : ∀ (k : Nat) {d : Option Tmp} {op : Op} (ks : List Nat), opInfo ops k t = some (d, op) → Step X d op t D (fun t' D' => (atAll D' ks = some Θ ∨ onList ds k = true) ∧ RunV X K ops Θ ds fuel (l.setIfInBounds k true) t' D') →
      wpOpIn Fence.wide 0 X.P ops (den X ρ K) k (fun a' w' => wpAnyIn Fence.wide 0 X.P .any ops (den X ρ K) fuel (l.setIfInBounds k true) a' w') a w := by
    intro k d op ks h hs
    obtain ⟨o, ho, hg, hdst, hop⟩ := opInfo_spec h
    unfold wpOpIn
    simp only [ho, gd_sound ha hg, if_true]
    exact ⟨fun _ _ => trivial, uponIn_of_upon (hs o hdst hop ρ a w ha hw _ _ (fun t' D' a' w' h3 h4 h5 => h5.2 ρ a' w' h3 h4)).2⟩
  rcases List.mem_cons.1 hk with rfl | hk
  · exact fin _ _ h1 s1
  · obtain rfl := List.mem_singleton.1 hk
    exact fin _ _ h2 s2
omit hU in
theorem RunV.done (h : (Region.ready .any ops l == []) = true) (k : K .normal t D) : RunV X K ops Θ ds fuel l t D := by
  intro ρ a w ha hw
  have h : Region.ready .any ops l = [] := by simpa using h
  exact wpAnyIn_done h ⟨ρ, t, D, .refl ρ, ha, hw, k⟩ fuel
omit hU in
theorem RunV.enveq (t' : Env) (h : t = t') (k : RunV X K ops Θ ds fuel l t' D) : RunV X K ops Θ ds fuel l t D := by subst h; exact k
omit hU in
theorem RunV.env (keep : List Nat) (t' : Env) (h : pick t keep = t') (k : RunV X K ops Θ ds fuel l t' D) : RunV X K ops Θ ds fuel l t D := by
  subst h
  exact fun ρ a w ha hw => k ρ a w (ha.sub (fun p hp => pick_mem hp)) hw
omit hU in
theorem RunV.turn (D' : List Fact) (hD : ∀ w0 W w, SAT w0 W D w → SAT w0 W D' w) (k : RunV X K ops Θ ds fuel l t D') : RunV X K ops Θ ds fuel l t D := fun ρ a w ha hw => k ρ a w ha (hD _ _ w hw)
end
end Go.Proofs.Ytlibhidhfbecbaa.SL

/- A row of bytes that came of a text: it is marked behind its end, and may be written. -/
namespace Go.Proofs.Ytlibhidhfbecbaa.SL
set_option linter.unusedVariables false
set_option linter.unusedSimpArgs false
open Go

section
variable {X : Cx} {U : Tab} (hU : U.OK X.P) {t : Env} {D : List Fact} {φ : Env → List Fact → Prop}
include hU
end
end Go.Proofs.Ytlibhidhfbecbaa.SL

/- Short words for what walks say again and again. -/
namespace Go.Proofs.Ytlibhidhfbecbaa.SL
set_option linter.unusedVariables false
set_option linter.unusedSimpArgs false
open Go

abbrev pt (b : Nat) : Value := .pointer (some ⟨b, 0, none⟩)
abbrev z5 : Value := .agg #[.int .u64 0, .int .u64 0, .int .u64 0, .int .u64 0, .int .u64 0]
def trues : Nat → Prop
  | 0 => True
  | n + 1 => True ∧ trues n
theorem trues_ok : ∀ n, trues n
  | 0 => trivial
  | n + 1 => ⟨trivial, trues_ok n⟩
section
variable {X : Cx} {K : Post} {ops : Array Oper} {t : Env} {D : List Fact} {i : Nat}
theorem RunR.sl {U : Tab} (hU : U.OK X.P) (nw : List Nat) (n j : Nat) (keep : List Nat) (t' : Env) (m : Nat) (k : RunR X K ops j t' D) (hj : i + n = j := by rfl)
    (h : (SL.sil X.N U nw ops n i t).map (fun p => (pick p.1 keep, p.2)) = some (t', trues m) := by kernel_rfl) : RunR X K ops i t D := RunR.sil hU nw n j keep t' _ hj h (trues_ok m) k
theorem RunR.dn (k : K .normal t D) (hb : Nat.ble ops.size i = true := by kernel_rfl) : RunR X K ops i t D := RunR.done hb k
theorem RunR.st (dst : Option Tmp) (op : Op) (hs : Step X dst op t D (RunR X K ops (i + 1))) (h : opInfo ops i t = some (dst, op) := by kernel_rfl) : RunR X K ops i t D := RunR.step h hs
theorem RunR.ev (keep : List Nat) (t' : Env) (k : RunR X K ops i t' D) (h : pick t keep = t' := by kernel_rfl) : RunR X K ops i t D := RunR.env keep t' h k
theorem RunC.sr {id : Nat} {d : Code} (h : RunR X (kseq X d K) ops 0 t D) : RunC X K (.seq (.region id ops false) d) t D := RunC.seq (RunC.region h)
theorem RunR.nn {c : Code} (h : RunC X K c t D) (hb : Nat.ble ops.size i = true := by kernel_rfl) : RunR X (kseq X c K) ops i t D := RunR.done hb (kseq_n h)
theorem RunR.nx {id : Nat} {d : Code} {ops2 : Array Oper} (h : RunR X (kseq X d K) ops2 0 t D) (hb : Nat.ble ops.size i = true := by kernel_rfl) : RunR X (kseq X (.seq (.region id ops2 false) d) K) ops i t D := RunR.done hb (kseq_n (RunC.seq (RunC.region h)))
theorem RunC.ks {c : Code} (h : RunC X K c t D) : RunC X (kseq X c K) .skip t D := RunC.skip (kseq_n h)
theorem RunC.ksr {id : Nat} {d : Code} (h : RunR X (kseq X d K) ops 0 t D) : RunC X (kseq X (.seq (.region id ops false) d) K) .skip t D := RunC.skip (kseq_n (RunC.seq (RunC.region h)))
end
theorem orR {A B Q : Prop} (k : Q) (h : B := by kernel_rfl) : (A ∨ B) ∧ Q := ⟨.inr h, k⟩
theorem orL {A B Q : Prop} (k : Q) (h : A := by kernel_rfl) : (A ∨ B) ∧ Q := ⟨.inl h, k⟩
section
variable {X : Cx} {K : Post} {ops : Array Oper} {Θ : List Fact} {ds : List Nat} {t : Env} {D : List Fact} {fuel : Nat} {l : Array Bool}
theorem RunU.sl {U : Tab} (hU : U.OK X.P) (i : Nat) (l' : Array Bool) (d : Nat) (v : Value) (k : RunU X K ops Θ ds fuel l' (put t d v) D) (h : silu U false ops i t = some (d, v, True) := by kernel_rfl) (hc : takeOK ops l l' i = true := by kernel_rfl) (hd : Nat.ble (d + 1) X.N = true := by kernel_rfl)
    (hQ : ∀ c t D, K (.panic c) t D → False := by exact fun _ _ _ h => h) : RunU X K ops Θ ds (fuel + 1) l t D := RunU.sil hU false i l' d v True h trivial hc hd hQ k
theorem RunU.rd (i : Nat) (l' : Array Bool) (d : Nat) (op : Op) (v : Value) (ks : List Nat) (hr : Reads X Θ (some d) op t v) (k : RunU X K ops Θ ds fuel l' (put t d v) D) (h : opInfo ops i t = some (some d, op) := by kernel_rfl) (hks : atAll D ks = some Θ := by kernel_rfl) (hc : takeOK ops l l' i = true := by kernel_rfl) (hds : lastOK ops l ds i = true := by kernel_rfl) (hd : Nat.ble (d + 1) X.N = true := by kernel_rfl)
    (hQ : ∀ c t D, K (.panic c) t D → False := by exact fun _ _ _ h => h) : RunU X K ops Θ ds (fuel + 1) l t D := RunU.read i l' d op v ks h hr hks hc hds hd hQ k
theorem RunU.on (dst : Option Tmp) (op : Op) (i : Nat) (l' : Array Bool) (ks : List Nat) (hs : Step X dst op t D (fun t' D' => (atAll D' ks = some Θ ∨ onList ds i = true) ∧ RunU X K ops Θ ds fuel l' t' D')) (h : opInfo ops i t = some (dst, op) := by kernel_rfl) (hc : oneOK ops l l' i = true := by kernel_rfl) :
    RunU X K ops Θ ds (fuel + 1) l t D := RunU.one i l' ks h hc hs
theorem RunU.dn (k : K .normal t D) (h : (Region.ready .any ops l == []) = true := by kernel_rfl) : RunU X K ops Θ ds fuel l t D := RunU.done h k
theorem RunU.ev (keep : List Nat) (t' : Env) (k : RunU X K ops Θ ds fuel l t' D) (h : pick t keep = t' := by kernel_rfl) : RunU X K ops Θ ds fuel l t D := RunU.env keep t' h k
end
section
variable {X : Cx} {t : Env} {D : List Fact} {φ : Env → List Fact → Prop}
theorem Step.cl {d : Option Nat} {c : Operand} {as : Array Operand} {ts : Array TypeId} (f : FuncId) (vs : List Value) (C V E : List Fact) {Φ : Value → List Fact → Prop} (hcall : CallsS X.P f vs (C ++ V) Φ) (ks : List Nat) (hV : Lend E V) (k : ∀ r D', Φ r D' → φ (putO t d r) (D' ++ E))
    (hc : callee t c as.toList = some (f, vs) := by kernel_rfl) (hd : (d.map fun d => Nat.ble (d + 1) X.N).getD true = true := by kernel_rfl) (hD : pulls ks D = (C, E) := by kernel_rfl) : Step X d (.call { callee := .value c, args := as, argTypes := ts }) t D φ := Step.call f vs hc hd C V E hcall ks hD hV k
theorem Step.cn {d : Option Nat} {c : Operand} {as : Array Operand} {ts : Array TypeId} (f : FuncId) (vs : List Value) (C E : List Fact) {Φ : Value → List Fact → Prop} (hcall : CallsS X.P f vs (C ++ []) Φ) (ks : List Nat) (k : ∀ r D', Φ r D' → φ (putO t d r) (D' ++ E))
    (hc : callee t c as.toList = some (f, vs) := by kernel_rfl) (hd : (d.map fun d => Nat.ble (d + 1) X.N).getD true = true := by kernel_rfl) (hD : pulls ks D = (C, E) := by kernel_rfl) : Step X d (.call { callee := .value c, args := as, argTypes := ts }) t D φ := Step.call f vs hc hd C [] E hcall ks hD (Lend.nil _) k
end
section
variable {X : Cx} {U : Tab} (hU : U.OK X.P) {t : Env} {D : List Fact} {φ : Env → List Fact → Prop}
include hU
theorem Step.al {d : Nat} {ty : TypeId} (n b : Nat) (z : Value) (k : ∀ b, φ (put t d (.pointer (some ⟨b, 0, none⟩))) (blk b ty z.cells.toList :: D)) (hz : look U.ti ty = some (n, b, z) := by rfl) (hd : Nat.ble (d + 1) X.N = true := by kernel_rfl) : Step X (some d) (.alloc ty) t D φ := Step.alloc hU n b z hz hd k
theorem Step.ss {ty : TypeId} {x y : Operand} (k0 b o T : Nat) (cs cs' us : List Value) (v : Value) (n : Nat) (hl : us.length = n) (hp : Put cs o us cs') (k : φ t (blk b T cs' :: D.eraseIdx k0)) (hx : ev t x = some (.pointer (some ⟨b, o, none⟩)) := by kernel_rfl) (hy : ev t y = some v := by kernel_rfl) (hD : D[k0]? = some (blk b T cs) := by kernel_rfl)
    (hn : look U.sz ty = some n := by kernel_rfl) (hus : v.cells.toList = us := by kernel_rfl) (h1 : us.all (·.oneCell') = true := by simp only [List.all_append, all_one_nums, Bool.true_and, Bool.and_true] <;> rfl) : Step X none (.store ty x y) t D φ := Step.store_seg hU k0 b o T cs cs' us v hx hy hD n hn hus hl h1 hp k
end
end Go.Proofs.Ytlibhidhfbecbaa.SL

/- A law's argument that is a slice of structs of two numbers, a row of bytes and a row of truths. -/
namespace Go.Proofs.Ytlibhidhfbecbaa.SL
set_option linter.unusedVariables false
set_option linter.unusedSimpArgs false
open Go
abbrev Sd := Int × Int × Option Addr × Nat × List Int × Option Addr × Nat × List Bool
section
variable {X : Cx} {U : Tab} (hU : U.OK X.P) {t : Env}
include hU
end
section
variable {H : Type} {enc : TypeId × Value → H} {P : Program} {w : World}
end
end Go.Proofs.Ytlibhidhfbecbaa.SL

/- Rows and structs whose slices are owned together: one of them may be told by two. -/
namespace Go.Proofs.Ytlibhidhfbecbaa.SL
set_option linter.unusedVariables false
set_option linter.unusedSimpArgs false
open Go

def poo (k : IntKind) (ss : List Ro) (ws : List Ch) : Fact := rws k (ss ++ ws.map (·.2))
def InPoo (ss : List Ro) (ws : List Ch) (A : Option Addr) (c : Nat) (xs : List Int) : Prop := (A, c, xs) ∈ ss ++ ws.map (·.2)
theorem InPoo.tells {k : IntKind} {ss : List Ro} {ws : List Ch} {A : Option Addr} {c : Nat} {xs : List Int} (h : InPoo ss ws A c xs) : Tells (poo k ss ws) A (nums k xs) := tells_rws (c := c) h
section
variable {w0 : World} {W : FP} {D : List Fact} {w : World} {k : IntKind} {ss : List Ro} {ws : List Ch}
end
theorem rowsV_set (rs : List Ro) (i : Nat) (A : Option Addr) (c : Nat) (xs : List Int) : rowsV (rs.set i (A, c, xs)) = (rowsV rs).set i (.slice A xs.length c) := List.map_set
theorem RowsOK.set {k : IntKind} {rs : List Ro} {i : Nat} {A : Option Addr} {c : Nat} {xs : List Int} (h : RowsOK k rs) (h1 : In k xs) (h2 : xs.length ≤ c) (h3 : xs.length ≤ 140737488351232) : RowsOK k (rs.set i (A, c, xs)) := fun r hr => by
  rcases List.mem_or_eq_of_mem_set hr with hr | rfl
  · exact h r hr
  · exact ⟨h1, h2, h3⟩
theorem RowsOK.app {k : IntKind} {rs : List Ro} {A : Option Addr} {c : Nat} {xs : List Int} (h : RowsOK k rs) (h1 : In k xs) (h2 : xs.length ≤ c) (h3 : xs.length ≤ 140737488351232) : RowsOK k (rs ++ [(A, c, xs)]) := fun r hr => by
  rcases List.mem_append.1 hr with hr | hr
  · exact h r hr
  · rw [List.mem_singleton.1 hr]
    exact ⟨h1, h2, h3⟩
section
variable {X : Cx} {U : Tab} (hU : U.OK X.P) {t : Env} {D : List Fact} {φ : Env → List Fact → Prop}
include hU
theorem Reads.load_of {Θ : List Fact} {d : Option Nat} {ty : TypeId} {x : Operand} (k0 : Nat) (f : Fact) (A : Option Addr) (b o j : Nat) (cs : List Value) (v : Value) (hA : A = some ⟨b, o, none⟩) (hx : ev t x = some (.pointer (some ⟨b, o + j, none⟩))) (hD : Θ[k0]? = some f) (ht : Tells f A cs) (hv : loadv U ty cs j = some v)
    (hlt : j < cs.length) : Reads X Θ d (.load ty x) t v := by
  refine Reads.load hU k0 f A (j : Int) 1 cs v ?_ hD ht ?_ ?_
  · rw [hx, elem_at hA, Int.toNat_natCast, Nat.mul_one]
  · rw [Int.toNat_natCast, Nat.mul_one]; exact hlt
  · rw [Int.toNat_natCast, Nat.mul_one]; exact hv
theorem Step.store_ro {ty : TypeId} {x y : Operand} (k0 T n cap : Nat) (A : Option Addr) (rs : List Ro) (i : Int) (A' : Option Addr) (c' : Nat) (xs : List Int) (hx : ev t x = some (.pointer (elemAt A i 1))) (hy : ev t y = some (.slice A' xs.length c')) (hD : D[k0]? = some (row T 1 (.slice A n cap) n (rowsV rs))) (hm : look U.sz ty = some 1)
    (hi : 0 ≤ i ∧ i < rs.length) (k : φ t (row T 1 (.slice A n cap) n (rowsV (rs.set i.toNat (A', c', xs))) :: D.eraseIdx k0)) : Step X none (.store ty x y) t D φ := by
  refine Step.store_row hU k0 T 1 n cap A (rowsV rs) i (.slice A' xs.length c') hx hy hD 1 hm [.slice A' xs.length c'] rfl rfl rfl (by rw [rowsV_len]; omega) (by rw [rowsV_len]; omega) ?_
  rw [Nat.mul_one]
  rw [rowsV_set] at k
  rw [List.set_eq_take_append_cons_drop, if_pos (by rw [rowsV_len]; omega)] at k
  simpa [wr] using k
end
end Go.Proofs.Ytlibhidhfbecbaa.SL

/- Lists of changes that are lent; rows of rows that are owned; rows of functions. -/
namespace Go.Proofs.Ytlibhidhfbecbaa.SL
set_option linter.unusedVariables false
set_option linter.unusedSimpArgs false
open Go

def chL (ws : List Ch) : List (Option Addr × List Value) := rowsL .u8 (ws.map fun r => r.2)
theorem tells_chL {rs : List Ch} {i : Nat} {b : Int} {c : Nat} {A : Option Addr} {xs : List Int} (h : rs[i]? = some (b, A, c, xs)) : Tells (vws (chL rs)) A (nums .u8 xs) :=
  tells_vws (L := chL rs) (List.mem_map.2 ⟨(A, c, xs), List.mem_map.2 ⟨(b, A, c, xs), List.mem_of_getElem? h, rfl⟩, rfl⟩)
theorem Lend.ofChd {D V : List Fact} {ws : List Ch} (h : Lend D V) (j : Nat) (hj : D[j]? = some (chd .u8 ws)) : Lend D (vws (chL ws) :: V) :=
  h.cons j _ _ hj rfl (fun w fp hp => ⟨fp, fun _ hb => hb, hp⟩)
theorem tells_rwsI {k : IntKind} {rs : List Ro} {i : Nat} {c : Nat} {A : Option Addr} {xs : List Int} (h : rs[i]? = some (A, c, xs)) : Tells (rws k rs) A (nums k xs) := tells_rws (c := c) (List.mem_of_getElem? h)
theorem SAT.rwdPush {w0 : World} {W : FP} {D : List Fact} {w : World} {k : IntKind} {G : List Ro} {f : Fact} (A : Option Addr) (c : Nat) (xs : List Int) (hf : f.own = true) (ht : Tells f A (nums k xs)) (h : SAT w0 W (f :: rws k G :: D) w) : SAT w0 W (rws k (G ++ [(A, c, xs)]) :: D) w :=
  (SAT.rwsPush A c xs hf ht h).rwsSub _ (fun r hr => by
    rcases List.mem_append.1 hr with hr | hr
    · exact List.mem_cons_of_mem _ hr
    · rw [List.mem_singleton.1 hr]
      exact List.mem_cons_self)
def bsv (t : Env) : Nat → List (Nat × Operand) → Option (List Value)
  | _, [] => some []
  | j, (i, x) :: ps => match Nat.beq i j, ev t x, bsv t (j + 1) ps with
    | true, some v, some vs => some (v :: vs)
    | _, _, _ => none
theorem fill_vals {N : Nat} {ρ : Root} {t : Env} {a : Act} (ha : EnvOK N ρ t a) {pl : Nat → Option (Nat × Nat)} (hpl : ∀ i, pl i = some (i, 1)) : ∀ {ps : List (Nat × Operand)} {j : Nat} {vs : List Value} {cells : Array Value}, bsv t j ps = some vs → (∀ v ∈ vs, v.cells = #[v]) → j + vs.length = cells.size →
    Instr.fill pl cells (ps.map fun p => (p.1, a.eval p.2)) = some (cells.toList.take j ++ vs).toArray
  | [], j, vs, cells, h, _, hl => by
    cases h
    simp only [List.map_nil, Instr.fill, List.append_nil]
    rw [List.take_of_length_le (by simp at hl; simp; omega)]
  | (i, x) :: ps, j, vs, cells, h, hv, hl => by
    unfold bsv at h
    split at h
    · rename_i v vs' hb hx hr
      cases h
      obtain rfl := Nat.eq_of_beq_eq_true hb
      simp only [List.length_cons] at hl
      have ih := fill_vals ha hpl (cells := cells.setIfInBounds i v) hr (fun u hu => hv u (List.mem_cons_of_mem _ hu)) (by simp; omega)
      have hlt : ¬ cells.size < i + 1 := by omega
      have hc := hv v List.mem_cons_self
      simp only [List.map_cons, Instr.fill, hpl, ha.ev hx]
      simp [hc, hlt]
      rw [ih]
      congr 2
      rw [Array.toList_setIfInBounds, List.set_eq_take_append_cons_drop, if_pos (by simp; omega)]
      rw [List.take_append, List.length_take, Array.length_toList, Nat.min_eq_left (by omega)]
      simp [List.take_take]
    · cases h
section
variable {X : Cx} {U : Tab} (hU : U.OK X.P) {t : Env} {D : List Fact} {φ : Env → List Fact → Prop}
include hU
theorem Step.lit_vals {d : Nat} {ty : TypeId} {n : Nat} {ps : Array (Nat × Operand)} (e by_ : Nat) (z : Value) (vs : List Value) (hty : look U.und ty = some (.slice e)) (hti : look U.ti e = some (1, by_, z)) (hps : bsv t 0 ps.toList = some vs) (hone : ∀ v ∈ vs, v.cells = #[v]) (hn : Nat.beq vs.length n = true) (hsm : Nat.ble n 16777216 = true) (hd : Nat.ble (d + 1) X.N = true)
    (k : ∀ b, φ (put t d (.slice (some ⟨b, 0, none⟩) n n)) (row e 1 (.slice (some ⟨b, 0, none⟩) n n) n vs :: D)) : Step X (some d) (.buildSlice ty n ps) t D φ := by
  intro o hdst hop ρ a w ha hw Q K hK
  obtain ⟨i, hi, h1, h2, h3⟩ := hU.ti _ (look_mem hti)
  simp only at hi h1 h2 h3
  obtain rfl := Nat.eq_of_beq_eq_true hn
  have hsm := Nat.le_of_ble_eq_true hsm
  have hund := hU.und _ (look_mem hty)
  simp only at hund
  have hfill : ∀ (pl : Nat → Option (Nat × Nat)) (cells : Array Value), (∀ i, pl i = some (i, 1)) → cells.size = vs.length → Instr.fill pl cells (ps.map fun p => (p.1, a.eval p.2)).toList = some vs.toArray := by
    intro pl cells hpl hc
    have := fill_vals ha hpl (cells := cells) hps hone (by omega)
    simpa using this
  have hr : (execOp a.eval o).run X.P w = .ok (.value (.slice (some ⟨w.heap.size, 0, none⟩) vs.length vs.length)) (w.alloc (.cells vs.toArray e (0, 0))) := by
    unfold execOp
    have h48 : ¬ (vs.length > 2 ^ 24) := by omega
    have hf := fun cells hc => hfill (fun i => some (i, 1)) cells (fun i => rfl) hc
    by_cases h0 : vs.length = 0
    · simp only [hop, Instr.buildSlice, Sem.run_bind, run_underlying hund, Result.andThen_ok, sizeOf, typeInfo, run_program, hi, h1, Sem.run_pure, Nat.mul_one, Sem.run_ite, h48, if_false, h0, if_true]
      rw [hf _ (by simp [h0])]
      simp [newRow]
    · simp only [hop, Instr.buildSlice, Sem.run_bind, run_underlying hund, Result.andThen_ok, sizeOf, typeInfo, run_program, hi, h1, Sem.run_pure, Nat.mul_one, Sem.run_ite, h48, if_false, h0, zeroValue, h3]
      rw [hf _ (by simp)]
      simp [newRow]
  have hs := hw.alloc _ (blk w.heap.size e vs) rfl (blk_new w e _)
  have hs2 := SAT.row_of_blk (s := 1) (n := vs.length) (cap := vs.length) hs (Nat.le_refl _) (by simp only [maxLen]; omega) (by simp)
  rw [List.take_of_length_le (by simp)] at hs2
  refine wp_val hr (hK _ _ _ _ ?_ hs2 (k w.heap.size))
  rw [hdst]
  exact ha.put (Nat.le_of_ble_eq_true hd) _
theorem Step.append_vw {d : Nat} {ty : TypeId} {x y : Operand} (e by_ : Nat) (z : Value) (kd : IntKind) (k0 k1 : Nat) (B : Option Addr) (n cap : Nat) (xs : List Int) (A : Option Addr) (m c : Nat) (f : Fact) (ys : List Int)
    (hty : look U.und ty = some (.slice e)) (hti : look U.ti e = some (1, by_, z)) (hzs : Nat.beq z.cells.size 1 = true)
    (hx : ev t x = some (.slice B n cap)) (hy : ev t y = some (.slice A m c)) (hD : D[k0]? = some (vw B (nums kd xs))) (hf : D[k1]? = some f) (hfu : Tells f A (nums kd ys))
    (hm : m = ys.length) (hn : n = xs.length) (hn0 : 0 < xs.length) (hm0 : 0 < ys.length) (hcap : cap < xs.length + ys.length) (h63 : xs.length + ys.length ≤ 140737488355328) (hb : (xs.length + ys.length) * by_ ≤ 140737488355328) (hd : Nat.ble (d + 1) X.N = true)
    (k : ∀ B' cap', (xs ++ ys).length ≤ cap' → (0 < (xs ++ ys).length → B'.isSome = true) → φ (put t d (.slice B' (xs ++ ys).length cap')) (row e 1 (.slice B' (xs ++ ys).length cap') (xs ++ ys).length (nums kd (xs ++ ys)) :: D)) :
    Step X (some d) (.call { callee := .builtin .append, args := #[x, y], argTypes := #[ty, ty] }) t D φ := by
  subst hm; subst hn
  intro o hdst hop ρ a w ha hw Q K hK
  obtain ⟨i, hi, h1', h2', h3⟩ := hU.ti _ (look_mem hti)
  simp only at hi h1' h2' h3
  subst h2'
  have hz1 := Nat.eq_of_beq_eq_true hzs
  have ht := hU.und _ (look_mem hty)
  simp only at ht
  obtain ⟨fp0, hp0⟩ := hw.get k0 hD
  obtain ⟨fpf, hfP⟩ := hw.get k1 hf
  obtain ⟨q, _, hvw⟩ := hfu w fpf hfP
  obtain ⟨bd, rfl, holds⟩ := vw_cells hp0 (by rw [nums_length]; exact hn0)
  obtain ⟨ad, rfl, hcells⟩ := vw_cells hvw (by rw [nums_length]; exact hm0)
  have hmx : xs.length + ys.length ≤ maxLen := by simp only [maxLen]; omega
  have hr := run_append_grow (P := X.P) w ty o.type e i z ht hi h3 bd xs.length cap (nums kd xs) (by rw [nums_length, h1', Nat.mul_one]) holds ad ys.length c (nums kd ys) (by rw [nums_length, h1', Nat.mul_one]) hcells (by omega) (by omega) (growslice_fits (by omega) hb)
  have hge := grownCap_ge w (xs.length + ys.length) cap e
  have hcm := grownCap_le_maxLen w (xs.length + ys.length) cap e hmx
  have hs : SAT ρ.w0 ρ.W (row e 1 (.slice (some ⟨w.heap.size, 0, none⟩) (xs ++ ys).length (grownCap w (xs.length + ys.length) cap e)) (xs ++ ys).length (nums kd (xs ++ ys)) :: D) (w.drew.alloc (.cells ((nums kd xs).toArray ++ (nums kd ys).toArray ++ Builtin.zeroCells z.cells (grownCap w (xs.length + ys.length) cap e - (xs.length + ys.length))) e)) := by
    refine hw.drew.alloc _ _ rfl ⟨by rw [nums_length, Nat.mul_one], ?_, .inr ⟨w.heap.size, _, (Builtin.zeroCells z.cells (grownCap w (xs.length + ys.length) cap e - (xs.length + ys.length))).toList, rfl, ?_, by rw [List.length_append]; exact hge, hcm, ?_, fun x => Iff.rfl⟩⟩
    · rintro x rfl
      show w.heap.size < _
      simp
    · rw [show w.heap.size = w.drew.heap.size from rfl, heap_alloc_new]
      congr 2
      simp [nums]
    · have hzl : (Builtin.zeroCells z.cells (grownCap w (xs.length + ys.length) cap e - (xs.length + ys.length))).toList.length = grownCap w (xs.length + ys.length) cap e - (xs.length + ys.length) := by simp [size_zeroCells, hz1]
      rw [List.length_append, nums_length, List.length_append, hzl]
      omega
  refine wp_val (v := .slice (some ⟨w.heap.size, 0, none⟩) (xs ++ ys).length (grownCap w (xs.length + ys.length) cap e)) (w' := w.drew.alloc (.cells ((nums kd xs).toArray ++ (nums kd ys).toArray ++ Builtin.zeroCells z.cells (grownCap w (xs.length + ys.length) cap e - (xs.length + ys.length))) e)) ?_ (hK _ _ _ _ ?_ hs (k _ _ (by rw [List.length_append]; exact hge) (fun _ => rfl)))
  · unfold execOp
    simp only [hop, resolve, invoke, builtin, Sem.run_bind, Sem.run_pure, Result.andThen_ok, List.map_toArray, List.map_cons, List.map_nil, ha.ev hx, ha.ev hy, hr, List.length_append]
  · rw [hdst]
    exact ha.put (Nat.le_of_ble_eq_true hd) _
end
end Go.Proofs.Ytlibhidhfbecbaa.SL

/- A law's argument that is a slice of transactions: structs of two rows of numbers, two rows of truths and two numbers; parts of lists of changes. -/
namespace Go.Proofs.Ytlibhidhfbecbaa.SL
set_option linter.unusedVariables false
set_option linter.unusedSimpArgs false
open Go
structure Tr where
  bA : Option Addr
  bc : Nat
  bl : List Int
  yA : Option Addr
  yc : Nat
  yl : List Int
  ff : Int
  kA : Option Addr
  kc : Nat
  kb : List Bool
  gg : Int
  qA : Option Addr
  qc : Nat
  qb : List Bool
section
variable {U : Tab} {ty : TypeId} {rs : List Tr} {i : Nat} {r : Tr}
end
section
variable {rs : List Tr} {i : Nat} {bA yA kA qA : Option Addr} {bc yc kc qc : Nat} {bl yl : List Int} {kb qb : List Bool} {ff gg : Int}
end
section
variable {H : Type} {enc : TypeId × Value → H} {P : Program} {w : World}
end
end Go.Proofs.Ytlibhidhfbecbaa.SL

/- Two rows of rows whose slices are owned together. -/
namespace Go.Proofs.Ytlibhidhfbecbaa.SL
set_option linter.unusedVariables false
open Go
end Go.Proofs.Ytlibhidhfbecbaa.SL

/- Rows of texts; a text appended to a row of bytes. -/
namespace Go.Proofs.Ytlibhidhfbecbaa.SL
set_option linter.unusedVariables false
set_option linter.unusedSimpArgs false
open Go

theorem byteCells_sb (s : ByteArray) : byteCells s = nums .u8 (sb s) := by
  simp only [byteCells, nums, sb, List.map_map]
  rfl
theorem sb_len (s : ByteArray) : (sb s).length = s.size := by rw [← nums_length .u8, ← byteCells_sb, byteCells_length]
section
variable {X : Cx} {U : Tab} (hU : U.OK X.P) {t : Env} {D : List Fact} {φ : Env → List Fact → Prop}
include hU
end
def strV (ss : List ByteArray) : List Value := ss.map Value.string
theorem strV_len (ss : List ByteArray) : (strV ss).length = ss.length := List.length_map _
theorem strV_append (a b : List ByteArray) : strV (a ++ b) = strV a ++ strV b := List.map_append
theorem strV_one (ss : List ByteArray) : ∀ u ∈ strV ss, u.oneCell' = true := fun u hu => by
  obtain ⟨s, _, rfl⟩ := List.mem_map.1 hu
  rfl
section
variable {X : Cx} {U : Tab} (hU : U.OK X.P) {t : Env} {D : List Fact} {φ : Env → List Fact → Prop}
include hU
theorem Step.append_strs {d : Nat} {ty : TypeId} {x y : Operand} (e by_ : Nat) (z : Value) (k0 k1 : Nat) (B : Option Addr) (n cap : Nat) (ss : List ByteArray) (A : Option Addr) (m c : Nat) (f : Fact) (qs : List ByteArray)
    (hty : look U.und ty = some (.slice e)) (hti : look U.ti e = some (1, by_, z)) (hzs : Nat.beq z.cells.size 1 = true)
    (hx : ev t x = some (.slice B n cap)) (hy : ev t y = some (.slice A m c)) (hD : D[k0]? = some (row e 1 (.slice B n cap) n (strV ss))) (hf : D[k1]? = some f) (hfu : Tells f A (strV qs))
    (hm : m = qs.length) (hn : n = ss.length) (h63 : ss.length + qs.length ≤ 140737488355328) (hb : (ss.length + qs.length) * by_ ≤ 140737488355328) (hd : Nat.ble (d + 1) X.N = true)
    (k : ∀ B' cap', (ss ++ qs).length ≤ cap' → (0 < (ss ++ qs).length → B'.isSome = true) → φ (put t d (.slice B' (ss ++ qs).length cap')) (row e 1 (.slice B' (ss ++ qs).length cap') (ss ++ qs).length (strV (ss ++ qs)) :: D.eraseIdx k0)) :
    Step X (some d) (.call { callee := .builtin .append, args := #[x, y], argTypes := #[ty, ty] }) t D φ := by
  subst hm; subst hn
  intro o hdst hop ρ a w ha hw Q K hK
  refine Step.append (φ := fun t' D' => ∃ B' cap', t' = put t d (.slice B' (ss ++ qs).length cap') ∧ (0 < (ss ++ qs).length → B'.isSome = true) ∧ D' = row e 1 (.slice B' (ss ++ qs).length cap') (ss ++ qs).length (strV (ss ++ qs)) :: D.eraseIdx k0) hU e 1 by_ z k0 k1 _ ss.length (strV ss) A qs.length c f (strV qs) hty hti (Nat.eq_of_beq_eq_true hzs) (by decide) hx hy hD hf hfu (by simp [strV_len]) (strV_one qs) h63 hb hd (fun v' hv' => ?_) o hdst hop ρ a w ha hw Q K (fun t' D' a' w' h1 h2 h3 => ?_)
  · rw [← strV_append, ← List.length_append]
    rw [← List.length_append] at hv'
    obtain ⟨B', cap', rfl, hs⟩ := hv'
    exact ⟨B', cap', rfl, hs, rfl⟩
  · obtain ⟨B', cap', rfl, hs, rfl⟩ := h3
    refine hK _ _ _ _ h1 h2 (k B' cap' ?_ hs)
    obtain ⟨A', c', hv, hn, _⟩ := row_form h2
    injection hv with _ _ hc
    rw [hc]; exact hn
end
end Go.Proofs.Ytlibhidhfbecbaa.SL

/- What a builder of texts meets: a pointer there and back, a new row of whatever bytes. -/
namespace Go.Proofs.Ytlibhidhfbecbaa.SL
set_option linter.unusedVariables false
set_option linter.unusedSimpArgs false
set_option linter.unusedSectionVars false
open Go
section
variable {X : Cx} {U : Tab} (hU : U.OK X.P) {t : Env} {D : List Fact} {φ : Env → List Fact → Prop}
include hU
end
end Go.Proofs.Ytlibhidhfbecbaa.SL

/- Interfaces, maps that are made, rows of structs of four slices. -/
namespace Go.Proofs.Ytlibhidhfbecbaa.SL
set_option linter.unusedVariables false
set_option linter.unusedSimpArgs false
open Go

def someF : Fact where
  own := true
  P w fp := ∀ b, fp b → ∃ o, w.heap[b]? = some o
  loc h hl b hb := let ⟨o, ho⟩ := h b hb; ⟨o, (hl b hb).trans ho⟩
  bnd h b hb := let ⟨_, ho⟩ := h b hb; (Array.getElem?_eq_some_iff.1 ho).1
abbrev Bx := Ro × Ro × Ro × Ro
section
variable {rs : List Bx} {i : Nat} {A1 A2 A3 A4 : Option Addr} {c1 c2 c3 c4 : Nat} {x1 x2 x3 x4 : List Int}
end
section
variable {X : Cx} {U : Tab} (hU : U.OK X.P) {t : Env} {D : List Fact} {φ : Env → List Fact → Prop}
include hU
omit hU in
theorem Step.makeMap {d : Nat} {ty : TypeId} (hd : Nat.ble (d + 1) X.N = true) (k : ∀ m, φ (put t d (.map (some m))) D) : Step X (some d) (.makeMap ty none) t D φ := by
  intro o hdst hop ρ a w ha hw Q K hK
  have hr : (execOp a.eval o).run X.P w = .ok (.value (.map (some w.heap.size))) (w.alloc (.map #[] 0)) := by
    unfold execOp
    rw [hop]
    rfl
  have hs : SAT ρ.w0 ρ.W D (w.alloc (.map #[] 0)) := (hw.alloc (.map #[] 0) someF rfl (fun b hb => ⟨.map #[] 0, by subst hb; exact heap_alloc_new w _⟩)).tail
  refine wp_val hr (hK _ _ _ _ ?_ hs (k w.heap.size))
  rw [hdst]
  exact ha.put (Nat.le_of_ble_eq_true hd) _
omit hU in
theorem Step.invoke {d : Option Nat} {x : Operand} {name : String} {as : Array Operand} {ts : Array TypeId} (f : FuncId) (T : TypeId) (v : Value) (vs : List Value) (hx : ev t x = some (.iface T v)) (hm : ∀ w, (method (X.P.types.size + Made.depth) T v name).run X.P w = .ok (f, v) w)
    (has : as.toList.mapM (ev t) = some vs) (hd : (d.map fun d => Nat.ble (d + 1) X.N).getD true = true)
    (C V E : List Fact) {Φ : Value → List Fact → Prop} (hcall : CallsS X.P f (v :: vs) (C ++ V) Φ) (ks : List Nat) (hD : pulls ks D = (C, E)) (hV : Lend E V) (k : ∀ r D', Φ r D' → φ (putO t d r) (D' ++ E)) :
    Step X d (.call { callee := .invoke x name, args := as, argTypes := ts }) t D φ := by
  intro o hdst hop ρ a w ha hw Q K hK
  obtain ⟨⟨fn, cb, hf, hb, hname⟩, hcall⟩ := hcall
  have hp := pulls_perm ks D
  rw [hD] at hp
  obtain ⟨O1, hpre, hpost⟩ := hw.call hp hV
  have hargs : as.map a.eval = vs.toArray := by
    rw [← Array.toList_inj, Array.toList_map]
    exact eval_map ha has
  have hr : (execOp a.eval o).run X.P w = .ok (.enter f (v :: vs).toArray) w := by
    unfold execOp
    have e1 : (#[Value.iface T v] ++ vs.toArray)[0]? = some (.iface T v) := by simp
    have e2 : (#[Value.iface T v] ++ vs.toArray).extract 1 (#[Value.iface T v] ++ vs.toArray).size = vs.toArray := by simp
    simp only [hop, resolve, ha.ev hx, hargs, Sem.run_bind, Sem.run_pure, Result.andThen_ok, Go.invoke, e1, e2, callMethod, run_program, hm]
    simp [callFunc, hf, hb, hname]
  have hq : ∀ (e : Ending) w', (∃ r D', e = .returned r ∧ Φ r D' ∧ (∀ f ∈ D', f.own = true) ∧ SAT w O1 D' w') → ∃ r, e = .returned r ∧ K (a.put o.dst r) w' := by
    rintro e w' ⟨r, D', rfl, hΦ, hown, hs⟩
    refine ⟨r, rfl, hK _ _ _ _ ?_ (hpost D' w' hown hs) (k r D' hΦ)⟩
    rw [hdst]
    exact ha.putO hd r
  refine ⟨⟨about_any, ?_⟩, ?_⟩
  · rw [sem_of_run hr (fun _ h => by cases h), Oper.uponIn_enter]
    refine ⟨fun h => by simp [Cx.F, Fence.wide] at h, (callsIn_wide (n := 0 - 1)).2 ((hcall w O1 hpre).mono ?_)⟩
    intro e w' he
    obtain ⟨r, rfl, hk⟩ := hq e w' he
    exact hk
  · unfold Oper.wp
    rw [hr, Oper.upon_enter]
    refine (hcall w O1 hpre).mono ?_
    intro e w' he
    obtain ⟨r, rfl, hk⟩ := hq e w' he
    exact hk
end
end Go.Proofs.Ytlibhidhfbecbaa.SL
