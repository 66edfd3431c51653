/- Calls and contracts. -/
import Derived.Test.YtjhinpmnpdgadaaDoorSLf
import Derived.RangeFuncRecord
namespace Go.Proofs.YtjhinpmnpdgadaaDoor.SL
set_option linter.unusedVariables false
set_option linter.unusedSimpArgs false
open Go Go.RowKit

/-- Some facts to the front. -/
def pulls : List Nat → List Fact → List Fact × List Fact
  | [], D => ([], D)
  | k :: ks, D => match D[k]? with
    | some f => (f :: (pulls ks (D.eraseIdx k)).1, (pulls ks (D.eraseIdx k)).2)
    | none => ([], D)

theorem pulls_perm : ∀ (ks : List Nat) (D : List Fact), D.Perm ((pulls ks D).1 ++ (pulls ks D).2)
  | [], D => List.Perm.refl _
  | k :: ks, D => by
    unfold pulls
    cases h : D[k]? with
    | none => exact List.Perm.refl _
    | some f => exact (perm_pull h).trans (List.Perm.cons f (pulls_perm ks _))

theorem SAT.left {w0 : World} {W : FP} {D E : List Fact} {w : World} (h : SAT w0 W (D ++ E) w) : SAT w0 W D w := by
  induction E with
  | nil => simpa using h
  | cons f E ih => exact ih (h.perm List.perm_middle).tail

/-- These facts, in this order. -/
theorem SAT.sel {w0 : World} {W : FP} {D : List Fact} {w : World} (h : SAT w0 W D w) (ks : List Nat) (D' : List Fact) (hD : (pulls ks D).1 = D') : SAT w0 W D' w := by
  subst hD
  exact (h.perm (pulls_perm ks D)).left

section
variable {X : Cx} {K : Post} {ops : Array Oper} {t : Env} {D : List Fact} {i : Nat}
theorem RunR.facts (ks : List Nat) (D' : List Fact) (h : (pulls ks D).1 ++ (pulls ks D).2 = D') (k : RunR X K ops i t D') : RunR X K ops i t D := by
  subst h
  exact fun ρ a w ha hw => k ρ a w ha (hw.perm (pulls_perm ks D))
theorem RunC.facts {c : Code} (ks : List Nat) (D' : List Fact) (h : (pulls ks D).1 ++ (pulls ks D).2 = D') (k : RunC X K c t D') : RunC X K c t D := by
  subst h
  exact fun ρ a w ha hw => k ρ a w ha (hw.perm (pulls_perm ks D))
/-- These alone. -/
theorem RunR.only (ks : List Nat) (D' : List Fact) (h : (pulls ks D).1 = D') (k : RunR X K ops i t D') : RunR X K ops i t D :=
  fun ρ a w ha hw => k ρ a w ha (hw.sel ks D' h)
theorem RunC.only {c : Code} (ks : List Nat) (D' : List Fact) (h : (pulls ks D).1 = D') (k : RunC X K c t D') : RunC X K c t D :=
  fun ρ a w ha hw => k ρ a w ha (hw.sel ks D' h)
/-- What the facts tell goes into the context. -/
theorem RunR.know {p : Prop} (hp : ∀ w0 W w, SAT w0 W D w → p) (k : p → RunR X K ops i t D) : RunR X K ops i t D := fun ρ a w ha hw => k (hp _ _ w hw) ρ a w ha hw
theorem RunC.know {c : Code} {p : Prop} (hp : ∀ w0 W w, SAT w0 W D w → p) (k : p → RunC X K c t D) : RunC X K c t D := fun ρ a w ha hw => k (hp _ _ w hw) ρ a w ha hw
theorem RunR.turn (D' : List Fact) (hD : ∀ w0 W w, SAT w0 W D w → SAT w0 W D' w) (k : RunR X K ops i t D') : RunR X K ops i t D := fun ρ a w ha hw => k ρ a w ha (hD _ _ w hw)
theorem RunC.turn {c : Code} (D' : List Fact) (hD : ∀ w0 W w, SAT w0 W D w → SAT w0 W D' w) (k : RunC X K c t D') : RunC X K c t D := fun ρ a w ha hw => k ρ a w ha (hD _ _ w hw)
end

def CallsS (P : Program) (f : FuncId) (args : List Value) (D : List Fact) (Φ : Value → List Fact → Prop) : Prop :=
  (∃ fn c, P.funcs[f]? = some fn ∧ fn.body = some c ∧ fn.name ≠ "runtime.NumGoroutine") ∧
  ∀ w W, SAT w W D w → Calls P f args.toArray w (fun e w' => ∃ r D', e = .returned r ∧ Φ r D' ∧ (∀ f ∈ D', f.own = true) ∧ SAT w W D' w')

theorem CallsS.mono {P : Program} {f : FuncId} {args : List Value} {D : List Fact} {Φ Ψ : Value → List Fact → Prop} (h : CallsS P f args D Φ) (hi : ∀ r D', Φ r D' → Ψ r D') : CallsS P f args D Ψ :=
  ⟨h.1, fun w W hw => (h.2 w W hw).mono fun _ _ ⟨r, D', h1, h2, h3⟩ => ⟨r, D', h1, hi _ _ h2, h3⟩⟩

/-- What the results read as. -/
def ResOK (U : Tab) (t : Env) (D : List Fact) : List ResultVar → List Value → Prop
  | [], [] => True
  | .tmp k :: rs, v :: vs => get t k = some v ∧ ResOK U t D rs vs
  | .cell p ty :: rs, v :: vs => (∃ (k0 b o : Nat) (T : TypeId) (cs : List Value), get t p = some (.pointer (some ⟨b, o, none⟩)) ∧ D[k0]? = some (blk b T cs) ∧ loadv U ty cs o = some v) ∧ ResOK U t D rs vs
  | _, _ => False

def retv : List Value → Value
  | [v] => v
  | vs => .tuple vs.toArray

def kret (U : Tab) (rs : List ResultVar) (Φ : Value → List Fact → Prop) : Post := fun e t D => match e with
  | .normal | .ret => ∃ vs D', ResOK U t D rs vs ∧ (∀ f ∈ D', f.own = true) ∧ (∀ w0 W w, SAT w0 W D w → SAT w0 W D' w) ∧ Φ (retv vs) D'
  | _ => False

/-! ### Where a piece of code ends -/
section
variable {X : Cx} {K : Post} {t : Env} {D : List Fact} {c : Code}
theorem kseq_n (h : RunC X K c t D) : kseq X c K .normal t D := h
theorem kseq_r (h : K .ret t D) : kseq X c K .ret t D := h
theorem kseq_e {j : Nat} (h : K (.exit j) t D) : kseq X c K (.exit j) t D := h
theorem kblock_n {id : Nat} (h : K .normal t D) : kblock id K .normal t D := h
theorem kblock_r {id : Nat} (h : K .ret t D) : kblock id K .ret t D := h
theorem kblock_e {id : Nat} (h : K .normal t D) : kblock id K (.exit id) t D := by simp only [kblock, if_true]; exact h
theorem kblock_o {id j : Nat} (hj : Nat.beq j id = false) (h : K (.exit j) t D) : kblock id K (.exit j) t D := by
  have : j ≠ id := Nat.ne_of_beq_eq_false hj
  simp only [kblock, this, if_false]; exact h
theorem kloop_r {σ : Type} {I : σ → Env → List Fact → Prop} {m : σ → Nat} {s : σ} (h : K .ret t D) : kloop I m s K .ret t D := h
theorem kloop_e {σ : Type} {I : σ → Env → List Fact → Prop} {m : σ → Nat} {s : σ} {j : Nat} (h : K (.exit j) t D) : kloop I m s K (.exit j) t D := h
theorem kloop_n {σ : Type} {I : σ → Env → List Fact → Prop} {m : σ → Nat} {s : σ} (s' : σ) (keep ks : List Nat) (t' : Env) (D' : List Fact) (ht : pick t keep = t') (hD : (pulls ks D).1 = D') (hm : m s' < m s) (h : I s' t' D') : kloop I m s K .normal t D :=
  ⟨s', hm, t', D', fun p hp => by subst ht; exact pick_mem hp, fun _ _ _ hs => hs.sel ks D' hD, h⟩
theorem kret_r {U : Tab} {rs : List ResultVar} {Φ : Value → List Fact → Prop} (vs : List Value) (ks : List Nat) (D' : List Fact) (h : ResOK U t D rs vs) (hD : (pulls ks D).1 = D') (ho : D'.all (·.own) = true) (hΦ : Φ (retv vs) D') : kret U rs Φ .ret t D :=
  ⟨vs, D', h, fun f hf => List.all_eq_true.1 ho f hf, fun _ _ _ hs => hs.sel ks D' hD, hΦ⟩
theorem kret_n {U : Tab} {rs : List ResultVar} {Φ : Value → List Fact → Prop} (vs : List Value) (ks : List Nat) (D' : List Fact) (h : ResOK U t D rs vs) (hD : (pulls ks D).1 = D') (ho : D'.all (·.own) = true) (hΦ : Φ (retv vs) D') : kret U rs Φ .normal t D :=
  ⟨vs, D', h, fun f hf => List.all_eq_true.1 ho f hf, fun _ _ _ hs => hs.sel ks D' hD, hΦ⟩
end

def resOf (tmps : Array Value) : ResultVar → Sem Value
  | .tmp t => pure (tmps.getD t undef)
  | .cell a t => do loadVar t (← asAddr (tmps.getD a undef))

section
variable {X : Cx} {U : Tab} (hU : U.OK X.P) {N : Nat} {t : Env} {D : List Fact}
include hU
theorem run_results {tmps : Array Value} (ha : ∀ p ∈ t, tmps[p.1]? = some p.2) {w : World} (hw : ∀ b T cs, blk b T cs ∈ D → w.heap[b]? = some (.cells cs.toArray T (0, 0))) : ∀ {rs : List ResultVar} {vs : List Value}, ResOK U t D rs vs →
    (rs.mapM (resOf tmps)).run X.P w = .ok vs w
  | [], [], _ => by simp
  | .tmp k :: rs, v :: vs, h => by
    have ih := run_results ha hw h.2
    have hv : tmps.getD k undef = v := by rw [Array.getD_eq_getD_getElem?, ha _ (get_mem h.1)]; rfl
    rw [List.mapM_cons, Sem.run_bind]
    simp only [resOf, Sem.run_pure, Result.andThen_ok, Sem.run_bind, ih, hv]
  | .cell p ty :: rs, v :: vs, h => by
    have ih := run_results ha hw h.2
    obtain ⟨⟨k0, b, o, T, cs, h1, h2, h3⟩, _⟩ := h
    have hv : tmps.getD p undef = .pointer (some ⟨b, o, none⟩) := by rw [Array.getD_eq_getD_getElem?, ha _ (get_mem h1)]; rfl
    have hh := hw b T cs (List.mem_of_getElem? h2)
    have hl := run_loadv hU (X := X) h3 (a := ⟨b, o, none⟩) (w := w) (fun j u hu => by rw [Addr.add_mid, cell_of_row w b _ _ T _ hh]; simpa using hu)
    simp only [Instr.loadAt, Instr.sureAddr, Sem.run_bind, Sem.run_pure, Result.andThen_ok] at hl
    rw [List.mapM_cons, Sem.run_bind]
    simp only [resOf, hv, asAddr, Sem.run_bind, Sem.run_pure, Result.andThen_ok, hl, ih]
  | [], _ :: _, h => h.elim
  | .tmp _ :: _, [], h => h.elim
  | .cell _ _ :: _, [], h => h.elim

theorem run_resv {tmps : Array Value} (ha : ∀ p ∈ t, tmps[p.1]? = some p.2) {w : World} (hw : ∀ b T cs, blk b T cs ∈ D → w.heap[b]? = some (.cells cs.toArray T (0, 0))) {fn : Func} {rs : List ResultVar} (hrs : fn.results = rs.toArray) {vs : List Value} (h : ResOK U t D rs vs) : (results fn tmps).run X.P w = .ok (retv vs) w := by
  have he : results fn tmps = (do let vs ← fn.results.mapM (resOf tmps); pure (if h : vs.size = 1 then vs[0] else .tuple vs)) := rfl
  have hm := run_results hU ha hw h
  rw [he, Sem.run_bind, hrs, List.mapM_toArray, Sem.run_map, hm]
  simp only [Result.andThen_ok, Sem.run_pure]
  congr 1
  match vs with
  | [] => simp [retv]
  | [v] => simp [retv]
  | _ :: _ :: _ => simp [retv]
end

/-- The marks are taken: their blocks are shut. -/
def shut (w : World) : List Nat → World
  | [] => w
  | b :: ds => shut (w.putObj b (.deferred none)) ds

theorem shut_same : ∀ {ds : List Nat} {w : World}, (shut w ds).os = w.os ∧ (shut w ds).tape = w.tape ∧ (shut w ds).output = w.output ∧ (shut w ds).heap.size = w.heap.size ∧ ∀ b, b ∉ ds → (shut w ds).heap[b]? = w.heap[b]?
  | [], w => ⟨rfl, rfl, rfl, rfl, fun _ _ => rfl⟩
  | d :: ds, w => by
    obtain ⟨h1, h2, h3, h4, h5⟩ := shut_same (ds := ds) (w := w.putObj d (.deferred none))
    refine ⟨h1, h2, h3, h4.trans (by simp), fun b hb => ?_⟩
    rw [List.mem_cons, not_or] at hb
    exact (h5 b hb.2).trans (World.putObj_heap_other hb.1)

/-- Owned facts stand when marked blocks are shut. -/
theorem SAT.shut {ρ : Root} {D : List Fact} {w : World} (h : SAT ρ.w0 ρ.W D w) (ho : ∀ f ∈ D, f.own = true) (hok : ρ.OK) : SAT ρ.w0 ρ.WD D (SL.shut w ρ.ds) := by
  obtain ⟨fr, O, R, h1, h2, h3, h4⟩ := h
  obtain ⟨s1, s2, s3, s4, s5⟩ := shut_same (ds := ρ.ds) (w := w)
  have hO : ∀ b, O b → b ∉ ρ.ds := fun b hb hm => by
    obtain ⟨q1, q2, _⟩ := hok.at_ b hm
    rcases h3 b hb with h | h
    · omega
    · exact q2 h
  have this : ∀ (L : List Fact) (O' : FP), (∀ f ∈ L, f.own = true) → sat L w O' R → sat L w O' (fun _ => False) := by
    intro L
    induction L with
    | nil => exact fun _ _ _ => trivial
    | cons f L ih =>
      rintro O' hown ⟨fp, hp, h⟩
      have hf := hown f List.mem_cons_self
      rw [hf] at h
      refine ⟨fp, hp, ?_⟩
      rw [hf]
      exact ⟨h.1, ih _ (fun g hg => hown g (List.mem_cons_of_mem _ hg)) h.2⟩
  refine ⟨⟨s1.trans fr.os, s2.trans fr.tape, s3.trans fr.output, by rw [s4]; exact fr.size, fun b hb hW => ?_⟩, O, fun _ => False, ?_, fun _ _ h => h, fun b hb => (h3 b hb).imp id .inl, fun b hb => ?_⟩
  · have hW1 : ¬ ρ.W b := fun h => hW (.inl h)
    have hW2 : b ∉ ρ.ds := fun h => hW (.inr h)
    exact (s5 b hW2).trans (fr.block b hb hW1)
  · exact sat_loc (this D O ho h1) (fun b hb => s5 b (hO b (hb.resolve_right (fun h => h))))
  · rw [s4]
    exact h4 b (.inl (hb.resolve_right (fun h => h)))

/-- The marks among the deferred calls, one behind the other. -/
theorem leaves_marks {P : Program} {fn : Func} {tmps : Array Value} {R : Ending → World → Prop} : ∀ (ds : List Nat) (w : World), ds.Nodup → (∀ b ∈ ds, w.heap[b]? = some (.deferred (some []))) →
    LeavesInM Fence.wide 0 P fn tmps R [] .returning (shut w ds) → LeavesInM Fence.wide 0 P fn tmps R (ds.map mark) .returning w
  | [], w, _, _, h => h
  | d :: ds, w, hn, hd, h => by
    refine ⟨by simp, .inl ⟨d, _, rfl, run_takeDeferred (hd d List.mem_cons_self), leaves_marks ds _ (List.nodup_cons.1 hn).2 (fun b hb => ?_) h⟩⟩
    have hne : b ≠ d := fun e => (List.nodup_cons.1 hn).1 (e ▸ hb)
    exact (World.putObj_heap_other hne).trans (hd b (List.mem_cons_of_mem _ hb))

def enumArgs : Nat → List Value → Env
  | _, [] => []
  | n, v :: vs => (n, v) :: enumArgs (n + 1) vs

theorem enumArgs_mem : ∀ {vs : List Value} {n : Nat} {p : Nat × Value}, p ∈ enumArgs n vs → n ≤ p.1 ∧ vs[p.1 - n]? = some p.2
  | v :: vs, n, p, h => by
    rcases List.mem_cons.1 h with rfl | h
    · simp
    · obtain ⟨h1, h2⟩ := enumArgs_mem h
      refine ⟨by omega, ?_⟩
      rw [show p.1 - n = (p.1 - (n + 1)) + 1 by omega]
      simpa using h2

theorem sat_blk {w0 : World} {W : FP} {D : List Fact} {w : World} (h : SAT w0 W D w) (b T : Nat) (cs : List Value) (hm : blk b T cs ∈ D) : w.heap[b]? = some (.cells cs.toArray T (0, 0)) := by
  obtain ⟨fp, hp, _⟩ := h.mem hm
  exact hp

/-- A contract, out of the run of the body. -/
theorem CallsS.enter {P : Program} {U : Tab} (hU : U.OK P) {f : FuncId} {args : List Value} {D : List Fact} {Φ : Value → List Fact → Prop} (fn : Func) (c : Code) (rs : List ResultVar) (N : Nat) (hf : P.funcs[f]? = some fn) (hb : fn.body = some c)
    (hname : fn.name ≠ "runtime.NumGoroutine") (hN : fn.ntmps = N) (hrs : fn.results = rs.toArray) (hna : Nat.ble args.length N = true)
    (h : ∀ (w0 : World) (W : FP), RunC ⟨P, N, none⟩ (kret U rs Φ) c (enumArgs 0 args) D) : CallsS P f args D Φ := by
  refine ⟨⟨fn, c, hf, hb, hname⟩, fun w W hw => callsIn_wide.1 (callsIn_of_wp_marks (F := Fence.wide) (n := 0) hf hb trivial (wpIn_mono (h w W ⟨w, W, []⟩ _ w ?_ hw) ?_))⟩
  · have hle := Nat.le_of_ble_eq_true hna
    refine ⟨⟨List.nodup_nil, fun b hb => by cases hb⟩, rfl, by simp; omega, fun p hp => ?_⟩
    obtain ⟨_, h2⟩ := enumArgs_mem hp
    simp only [Nat.sub_zero] at h2
    have hlt : p.1 < args.length := (List.getElem?_eq_some_iff.1 h2).1
    rw [Array.getElem?_append_left (by simpa using hlt)]
    simpa using h2
  · have key : ∀ ρ t D a w', Ext ⟨w, W, []⟩ ρ → EnvOK N ρ t a → SAT ρ.w0 ρ.W D w' → (∃ vs D', ResOK U t D rs vs ∧ (∀ f ∈ D', f.own = true) ∧ (∀ w0 W w, SAT w0 W D w → SAT w0 W D' w) ∧ Φ (retv vs) D') →
        LeavesInM Fence.wide 0 P fn a.tmps (fun e w' => ∃ r D', e = .returned r ∧ Φ r D' ∧ (∀ f ∈ D', f.own = true) ∧ SAT w W D' w') a.defers .returning w' := by
      rintro ρ t D a w' hx ha hs ⟨vs, D', h1, h2, h3, h4⟩
      obtain ⟨fr, O, R, g1, g2, g3, g4⟩ := id hs
      have hD' := (h3 _ _ _ hs).shut h2 ha.ok
      have hfin := hx D' _ hD'
      have hfin2 : SAT w W D' (shut w' ρ.ds) := by
        obtain ⟨f1, O1, R1, q1, q2, q3, q4⟩ := hfin
        have e : ∀ b, ¬ W b → ¬ (W b ∨ b ∈ ([] : List Nat)) := fun b hb h => h.elim hb (fun h => by cases h)
        exact ⟨⟨f1.os, f1.tape, f1.output, f1.size, fun b hb hW => f1.block b hb (e b hW)⟩, O1, R1, q1, q2, fun b hb => (q3 b hb).imp id (fun h => h.elim id (fun h => by cases h)), q4⟩
      rw [ha.defers]
      refine leaves_marks ρ.ds w' ha.ok.nd (fun b hb => ?_) ?_
      · obtain ⟨p1, p2, p3⟩ := ha.ok.at_ b hb
        exact (fr.block b p1 p2).trans p3
      · have hnot : ∀ b T cs, blk b T cs ∈ D → b ∉ ρ.ds := fun b T cs hm hb => by
          have q1 := sat_blk hs b T cs hm
          obtain ⟨p1, p2, p3⟩ := ha.ok.at_ b hb
          have q2 := (fr.block b p1 p2).trans p3
          rw [q1] at q2
          cases q2
        have hr := run_resv (X := ⟨P, N, none⟩) hU ha.at_ (w := shut w' ρ.ds) (fun b T cs hm => (shut_same.2.2.2.2 b (hnot b T cs hm)).trans (sat_blk hs b T cs hm)) hrs h1
        exact ⟨_, hr, _, D', rfl, h4, h2, hfin2⟩
    rintro e a w' ⟨ρ, t, D, hx, ha, hs, hk⟩
    cases e with
    | normal => exact key ρ t D a w' hx ha hs hk
    | ret => exact key ρ t D a w' hx ha hs hk
    | _ => exact hk.elim

section
variable {X : Cx} {t : Env} {D : List Fact} {φ : Env → List Fact → Prop}

def putO (t : Env) (d : Option Nat) (v : Value) : Env := match d with | some d => put t d v | none => t

theorem EnvOK.putO {N : Nat} {ρ : Root} {t : Env} {a : Act} (h : EnvOK N ρ t a) {d : Option Nat} (hd : (d.map fun d => Nat.ble (d + 1) N).getD true = true) (v : Value) : EnvOK N ρ (putO t d v) (a.put d v) := by
  cases d with
  | none => exact ⟨h.ok, h.defers, h.size, h.at_⟩
  | some d => exact h.put (Nat.le_of_ble_eq_true hd) v

/-- The callee and all that it is handed. -/
def callee (t : Env) (c : Operand) (args : List Operand) : Option (FuncId × List Value) :=
  match ev t c, args.mapM (ev t) with
  | some (.func (.func f) first captured), some vs => some (f, first.toList ++ vs ++ captured.toList)
  | _, _ => none

/-- A call, by a contract. -/
theorem Step.call {d : Option Nat} {c : Operand} {as : Array Operand} {ts : Array TypeId} (f : FuncId) (vs : List Value) (hc : callee t c as.toList = some (f, vs)) (hd : (d.map fun d => Nat.ble (d + 1) X.N).getD true = true)
    (C V E : List Fact) {Φ : Value → List Fact → Prop} (hcall : CallsS X.P f vs (C ++ V) Φ) (ks : List Nat) (hD : pulls ks D = (C, E)) (hV : Lend E V) (k : ∀ r D', Φ r D' → φ (putO t d r) (D' ++ E)) :
    Step X d (.call { callee := .value c, args := as, argTypes := ts }) t D φ := by
  intro o hdst hop ρ a w ha hw Q K hK
  unfold callee at hc
  split at hc
  · rename_i f' first captured us h1 h2
    simp only [Option.some.injEq, Prod.mk.injEq] at hc
    obtain ⟨rfl, rfl⟩ := hc
    obtain ⟨⟨fn, cb, hf, hb, hname⟩, hcall⟩ := hcall
    have hp := pulls_perm ks D
    rw [hD] at hp
    obtain ⟨O1, hpre, hpost⟩ := hw.call hp hV
    have hargs : as.map a.eval = us.toArray := by
      rw [← Array.toList_inj, Array.toList_map]
      exact eval_map ha h2
    have hr : (execOp a.eval o).run X.P w = .ok (.enter f' (first.toList ++ us ++ captured.toList).toArray) w := by
      unfold execOp
      have he : first ++ us.toArray ++ captured = (first.toList ++ us ++ captured.toList).toArray := by rw [← Array.toList_inj]; simp
      simp [hop, resolve, ha.ev h1, Deferred.ofValue, invoke, hargs, callFunc, hf, hb, hname, he]
    have hq : ∀ (e : Ending) w', (∃ r D', e = .returned r ∧ Φ r D' ∧ (∀ f ∈ D', f.own = true) ∧ SAT w O1 D' w') → ∃ r, e = .returned r ∧ K (a.put o.dst r) w' := by
      rintro e w' ⟨r, D', rfl, hΦ, hown, hs⟩
      refine ⟨r, rfl, hK _ _ _ _ ?_ (hpost D' w' hown hs) (k r D' hΦ)⟩
      rw [hdst]
      exact ha.putO hd r
    refine ⟨⟨about_any, ?_⟩, ?_⟩
    · rw [sem_of_run hr (fun _ h => by cases h), Oper.uponIn_enter]
      refine ⟨fun h => by simp [Cx.F, Fence.wide] at h, (callsIn_wide (n := 0 - 1)).2 ((hcall w O1 hpre).mono ?_)⟩
      intro e w' he
      obtain ⟨r, rfl, hk⟩ := hq e w' he
      exact hk
    · unfold Oper.wp
      rw [hr, Oper.upon_enter]
      refine (hcall w O1 hpre).mono ?_
      intro e w' he
      obtain ⟨r, rfl, hk⟩ := hq e w' he
      exact hk
  · cases hc
end
end Go.Proofs.YtjhinpmnpdgadaaDoor.SL
