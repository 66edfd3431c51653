/- Calls and contracts. -/
import Derived.Test.YtbnjcfhnbjaoiaaSLf
namespace Go.Proofs.Ytbnjcfhnbjaoiaa.SL
set_option linter.unusedVariables false
set_option linter.unusedSimpArgs false
open Go

/-- Some facts to the front. -/
def pulls : List Nat → List Fact → List Fact × List Fact
  | [], D => ([], D)
  | k :: ks, D => match D[k]? with
    | some f => (f :: (pulls ks (D.eraseIdx k)).1, (pulls ks (D.eraseIdx k)).2)
    | none => ([], D)

theorem pulls_perm : ∀ (ks : List Nat) (D : List Fact), D.Perm ((pulls ks D).1 ++ (pulls ks D).2)
  | [], D => List.Perm.refl _
  | k :: ks, D => by
    unfold pulls
    cases h : D[k]? with
    | none => exact List.Perm.refl _
    | some f => exact (perm_pull h).trans (List.Perm.cons f (pulls_perm ks _))

theorem SAT.left {w0 : World} {W : FP} {D E : List Fact} {w : World} (h : SAT w0 W (D ++ E) w) : SAT w0 W D w := by
  induction E with
  | nil => simpa using h
  | cons f E ih => exact ih (h.perm List.perm_middle).tail

/-- These facts, in this order. -/
theorem SAT.sel {w0 : World} {W : FP} {D : List Fact} {w : World} (h : SAT w0 W D w) (ks : List Nat) (D' : List Fact) (hD : (pulls ks D).1 = D') : SAT w0 W D' w := by
  subst hD
  exact (h.perm (pulls_perm ks D)).left

section
variable {X : Cx} {K : Post} {ops : Array Oper} {t : Env} {D : List Fact} {i : Nat}
theorem RunR.facts (ks : List Nat) (D' : List Fact) (h : (pulls ks D).1 ++ (pulls ks D).2 = D') (k : RunR X K ops i t D') : RunR X K ops i t D := by
  subst h
  exact fun a w ha hw => k a w ha (hw.perm (pulls_perm ks D))
theorem RunC.facts {c : Code} (ks : List Nat) (D' : List Fact) (h : (pulls ks D).1 ++ (pulls ks D).2 = D') (k : RunC X K c t D') : RunC X K c t D := by
  subst h
  exact fun a w ha hw => k a w ha (hw.perm (pulls_perm ks D))
/-- These alone. -/
theorem RunR.only (ks : List Nat) (D' : List Fact) (h : (pulls ks D).1 = D') (k : RunR X K ops i t D') : RunR X K ops i t D :=
  fun a w ha hw => k a w ha (hw.sel ks D' h)
theorem RunC.only {c : Code} (ks : List Nat) (D' : List Fact) (h : (pulls ks D).1 = D') (k : RunC X K c t D') : RunC X K c t D :=
  fun a w ha hw => k a w ha (hw.sel ks D' h)
/-- What the facts tell goes into the context. -/
theorem RunR.know {p : Prop} (hp : ∀ w, SAT X.w0 X.W D w → p) (k : p → RunR X K ops i t D) : RunR X K ops i t D := fun a w ha hw => k (hp w hw) a w ha hw
theorem RunC.know {c : Code} {p : Prop} (hp : ∀ w, SAT X.w0 X.W D w → p) (k : p → RunC X K c t D) : RunC X K c t D := fun a w ha hw => k (hp w hw) a w ha hw
theorem RunR.turn (D' : List Fact) (hD : ∀ w, SAT X.w0 X.W D w → SAT X.w0 X.W D' w) (k : RunR X K ops i t D') : RunR X K ops i t D := fun a w ha hw => k a w ha (hD w hw)
theorem RunC.turn {c : Code} (D' : List Fact) (hD : ∀ w, SAT X.w0 X.W D w → SAT X.w0 X.W D' w) (k : RunC X K c t D') : RunC X K c t D := fun a w ha hw => k a w ha (hD w hw)
end

def CallsS (P : Program) (f : FuncId) (args : List Value) (D : List Fact) (Φ : Value → List Fact → Prop) : Prop :=
  (∃ fn c, P.funcs[f]? = some fn ∧ fn.body = some c ∧ fn.name ≠ "runtime.NumGoroutine") ∧
  ∀ w W, SAT w W D w → Calls P f args.toArray w (fun e w' => ∃ r D', e = .returned r ∧ Φ r D' ∧ (∀ f ∈ D', f.own = true) ∧ SAT w W D' w')

theorem CallsS.mono {P : Program} {f : FuncId} {args : List Value} {D : List Fact} {Φ Ψ : Value → List Fact → Prop} (h : CallsS P f args D Φ) (hi : ∀ r D', Φ r D' → Ψ r D') : CallsS P f args D Ψ :=
  ⟨h.1, fun w W hw => (h.2 w W hw).mono fun _ _ ⟨r, D', h1, h2, h3⟩ => ⟨r, D', h1, hi _ _ h2, h3⟩⟩

/-- What the results read as. -/
def ResOK (U : Tab) (t : Env) (D : List Fact) : List ResultVar → List Value → Prop
  | [], [] => True
  | .tmp k :: rs, v :: vs => get t k = some v ∧ ResOK U t D rs vs
  | .cell p ty :: rs, v :: vs => (∃ (k0 b o : Nat) (T : TypeId) (cs : List Value), get t p = some (.pointer (some ⟨b, o, none⟩)) ∧ D[k0]? = some (blk b T cs) ∧ loadv U ty cs o = some v) ∧ ResOK U t D rs vs
  | _, _ => False

def retv : List Value → Value
  | [v] => v
  | vs => .tuple vs.toArray

def kret (U : Tab) (rs : List ResultVar) (Φ : Value → List Fact → Prop) : Post := fun e t D => match e with
  | .normal | .ret => ∃ vs D', ResOK U t D rs vs ∧ (∀ f ∈ D', f.own = true) ∧ (∀ w0 W w, SAT w0 W D w → SAT w0 W D' w) ∧ Φ (retv vs) D'
  | _ => False

/-! ### Where a piece of code ends -/
section
variable {X : Cx} {K : Post} {t : Env} {D : List Fact} {c : Code}
theorem kseq_n (h : RunC X K c t D) : kseq X c K .normal t D := h
theorem kseq_r (h : K .ret t D) : kseq X c K .ret t D := h
theorem kseq_e {j : Nat} (h : K (.exit j) t D) : kseq X c K (.exit j) t D := h
theorem kblock_n {id : Nat} (h : K .normal t D) : kblock id K .normal t D := h
theorem kblock_r {id : Nat} (h : K .ret t D) : kblock id K .ret t D := h
theorem kblock_e {id : Nat} (h : K .normal t D) : kblock id K (.exit id) t D := by simp only [kblock, if_true]; exact h
theorem kblock_o {id j : Nat} (hj : Nat.beq j id = false) (h : K (.exit j) t D) : kblock id K (.exit j) t D := by
  have : j ≠ id := Nat.ne_of_beq_eq_false hj
  simp only [kblock, this, if_false]; exact h
theorem kloop_r {σ : Type} {I : σ → Env → List Fact → Prop} {m : σ → Nat} {s : σ} (h : K .ret t D) : kloop I m s K .ret t D := h
theorem kloop_e {σ : Type} {I : σ → Env → List Fact → Prop} {m : σ → Nat} {s : σ} {j : Nat} (h : K (.exit j) t D) : kloop I m s K (.exit j) t D := h
theorem kloop_n {σ : Type} {I : σ → Env → List Fact → Prop} {m : σ → Nat} {s : σ} (s' : σ) (keep ks : List Nat) (t' : Env) (D' : List Fact) (ht : pick t keep = t') (hD : (pulls ks D).1 = D') (hm : m s' < m s) (h : I s' t' D') : kloop I m s K .normal t D :=
  ⟨s', hm, t', D', fun p hp => by subst ht; exact pick_mem hp, fun _ _ _ hs => hs.sel ks D' hD, h⟩
theorem kret_r {U : Tab} {rs : List ResultVar} {Φ : Value → List Fact → Prop} (vs : List Value) (ks : List Nat) (D' : List Fact) (h : ResOK U t D rs vs) (hD : (pulls ks D).1 = D') (ho : D'.all (·.own) = true) (hΦ : Φ (retv vs) D') : kret U rs Φ .ret t D :=
  ⟨vs, D', h, fun f hf => List.all_eq_true.1 ho f hf, fun _ _ _ hs => hs.sel ks D' hD, hΦ⟩
theorem kret_n {U : Tab} {rs : List ResultVar} {Φ : Value → List Fact → Prop} (vs : List Value) (ks : List Nat) (D' : List Fact) (h : ResOK U t D rs vs) (hD : (pulls ks D).1 = D') (ho : D'.all (·.own) = true) (hΦ : Φ (retv vs) D') : kret U rs Φ .normal t D :=
  ⟨vs, D', h, fun f hf => List.all_eq_true.1 ho f hf, fun _ _ _ hs => hs.sel ks D' hD, hΦ⟩
end

def resOf (tmps : Array Value) : ResultVar → Sem Value
  | .tmp t => pure (tmps.getD t undef)
  | .cell a t => do loadVar t (← asAddr (tmps.getD a undef))

section
variable {X : Cx} {U : Tab} (hU : U.OK X.P) {N : Nat} {t : Env} {D : List Fact}
include hU
theorem run_results {a : Act} (ha : EnvOK N t a) {w : World} (hw : SAT X.w0 X.W D w) : ∀ {rs : List ResultVar} {vs : List Value}, ResOK U t D rs vs →
    (rs.mapM (resOf a.tmps)).run X.P w = .ok vs w
  | [], [], _ => by simp
  | .tmp k :: rs, v :: vs, h => by
    have ih := run_results ha hw h.2
    have hv : a.tmps.getD k undef = v := ha.ev (x := .tmp k) h.1
    rw [List.mapM_cons, Sem.run_bind]
    simp only [resOf, Sem.run_pure, Result.andThen_ok, Sem.run_bind, ih, hv]
  | .cell p ty :: rs, v :: vs, h => by
    have ih := run_results ha hw h.2
    obtain ⟨⟨k0, b, o, T, cs, h1, h2, h3⟩, _⟩ := h
    have hv : a.tmps.getD p undef = .pointer (some ⟨b, o, none⟩) := ha.ev (x := .tmp p) h1
    obtain ⟨fp, hh, _⟩ := hw.get k0 h2
    have hl := run_loadv hU (X := X) h3 (a := ⟨b, o, none⟩) (w := w) (fun j u hu => by rw [Addr.add_mid, cell_of_row w b _ _ T _ hh]; simpa using hu)
    simp only [Instr.loadAt, Instr.sureAddr, Sem.run_bind, Sem.run_pure, Result.andThen_ok] at hl
    rw [List.mapM_cons, Sem.run_bind]
    simp only [resOf, hv, asAddr, Sem.run_bind, Sem.run_pure, Result.andThen_ok, hl, ih]
  | [], _ :: _, h => h.elim
  | .tmp _ :: _, [], h => h.elim
  | .cell _ _ :: _, [], h => h.elim

theorem run_resv {a : Act} (ha : EnvOK N t a) {w : World} (hw : SAT X.w0 X.W D w) {fn : Func} {rs : List ResultVar} (hrs : fn.results = rs.toArray) {vs : List Value} (h : ResOK U t D rs vs) : (results fn a.tmps).run X.P w = .ok (retv vs) w := by
  have he : results fn a.tmps = (do let vs ← fn.results.mapM (resOf a.tmps); pure (if h : vs.size = 1 then vs[0] else .tuple vs)) := rfl
  have hm := run_results hU ha hw h
  rw [he, Sem.run_bind, hrs, List.mapM_toArray, Sem.run_map, hm]
  simp only [Result.andThen_ok, Sem.run_pure]
  congr 1
  match vs with
  | [] => simp [retv]
  | [v] => simp [retv]
  | _ :: _ :: _ => simp [retv]
end

def enumArgs : Nat → List Value → Env
  | _, [] => []
  | n, v :: vs => (n, v) :: enumArgs (n + 1) vs

theorem enumArgs_mem : ∀ {vs : List Value} {n : Nat} {p : Nat × Value}, p ∈ enumArgs n vs → n ≤ p.1 ∧ vs[p.1 - n]? = some p.2
  | v :: vs, n, p, h => by
    rcases List.mem_cons.1 h with rfl | h
    · simp
    · obtain ⟨h1, h2⟩ := enumArgs_mem h
      refine ⟨by omega, ?_⟩
      rw [show p.1 - n = (p.1 - (n + 1)) + 1 by omega]
      simpa using h2

/-- A contract, out of the run of the body. -/
theorem CallsS.enter {P : Program} {U : Tab} (hU : U.OK P) {f : FuncId} {args : List Value} {D : List Fact} {Φ : Value → List Fact → Prop} (fn : Func) (c : Code) (rs : List ResultVar) (N : Nat) (hf : P.funcs[f]? = some fn) (hb : fn.body = some c)
    (hname : fn.name ≠ "runtime.NumGoroutine") (hN : fn.ntmps = N) (hrs : fn.results = rs.toArray) (hna : Nat.ble args.length N = true)
    (h : ∀ w0 W, RunC ⟨P, w0, W, N⟩ (kret U rs Φ) c (enumArgs 0 args) D) : CallsS P f args D Φ := by
  refine ⟨⟨fn, c, hf, hb, hname⟩, fun w W hw => calls_of_wp hf hb (Code.wp_mono ?_ (h w W _ w ?_ hw))⟩
  · have key : ∀ t D a w', EnvOK N t a → SAT w W D w' → (∃ vs D', ResOK U t D rs vs ∧ (∀ f ∈ D', f.own = true) ∧ (∀ w0 W w, SAT w0 W D w → SAT w0 W D' w) ∧ Φ (retv vs) D') →
        a.defers = [] ∧ ∃ v, (results fn a.tmps).run P w' = .ok v w' ∧ ∃ r D', Ending.returned v = .returned r ∧ Φ r D' ∧ (∀ f ∈ D', f.own = true) ∧ SAT w W D' w' := by
      rintro t D a w' ha hs ⟨vs, D', h1, h2, h3, h4⟩
      exact ⟨ha.defers, _, run_resv (X := ⟨P, w, W, N⟩) hU ha hs hrs h1, _, D', rfl, h4, h2, h3 _ _ _ hs⟩
    rintro e a w' ⟨t, D, ha, hs, hk⟩
    cases e with
    | normal => exact key t D a w' ha hs hk
    | ret => exact key t D a w' ha hs hk
    | _ => exact hk.elim
  · have hle := Nat.le_of_ble_eq_true hna
    refine ⟨rfl, by simp; omega, fun p hp => ?_⟩
    obtain ⟨_, h2⟩ := enumArgs_mem hp
    simp only [Nat.sub_zero] at h2
    have hlt : p.1 < args.length := (List.getElem?_eq_some_iff.1 h2).1
    rw [Array.getElem?_append_left (by simpa using hlt)]
    simpa using h2

section
variable {X : Cx} {t : Env} {D : List Fact} {φ : Env → List Fact → Prop}

def putO (t : Env) (d : Option Nat) (v : Value) : Env := match d with | some d => put t d v | none => t

theorem EnvOK.putO {N : Nat} {t : Env} {a : Act} (h : EnvOK N t a) {d : Option Nat} (hd : (d.map fun d => Nat.ble (d + 1) N).getD true = true) (v : Value) : EnvOK N (putO t d v) (a.put d v) := by
  cases d with
  | none => exact h
  | some d => exact h.put (Nat.le_of_ble_eq_true hd) v

/-- The callee and all that it is handed. -/
def callee (t : Env) (c : Operand) (args : List Operand) : Option (FuncId × List Value) :=
  match ev t c, args.mapM (ev t) with
  | some (.func (.func f) first captured), some vs => some (f, first.toList ++ vs ++ captured.toList)
  | _, _ => none

/-- A call, by a contract. -/
theorem Step.call {d : Option Nat} {c : Operand} {as : Array Operand} {ts : Array TypeId} (f : FuncId) (vs : List Value) (hc : callee t c as.toList = some (f, vs)) (hd : (d.map fun d => Nat.ble (d + 1) X.N).getD true = true)
    (C V E : List Fact) {Φ : Value → List Fact → Prop} (hcall : CallsS X.P f vs (C ++ V) Φ) (ks : List Nat) (hD : pulls ks D = (C, E)) (hV : Lend E V) (k : ∀ r D', Φ r D' → φ (putO t d r) (D' ++ E)) :
    Step X d (.call { callee := .value c, args := as, argTypes := ts }) t D φ := by
  intro o hdst hop a w ha hw Q K hK
  unfold callee at hc
  split at hc
  · rename_i f' first captured us h1 h2
    simp only [Option.some.injEq, Prod.mk.injEq] at hc
    obtain ⟨rfl, rfl⟩ := hc
    obtain ⟨⟨fn, cb, hf, hb, hname⟩, hcall⟩ := hcall
    have hp := pulls_perm ks D
    rw [hD] at hp
    obtain ⟨O1, hpre, hpost⟩ := hw.call hp hV
    have hargs : as.map a.eval = us.toArray := by
      rw [← Array.toList_inj, Array.toList_map]
      exact eval_map ha h2
    have hr : (execOp a.eval o).run X.P w = .ok (.enter f' (first.toList ++ us ++ captured.toList).toArray) w := by
      unfold execOp
      have he : first ++ us.toArray ++ captured = (first.toList ++ us ++ captured.toList).toArray := by rw [← Array.toList_inj]; simp
      simp [hop, resolve, ha.ev h1, Deferred.ofValue, invoke, hargs, callFunc, hf, hb, hname, he]
    unfold Oper.wp
    rw [hr, Oper.upon_enter]
    refine (hcall w O1 hpre).mono ?_
    rintro e w' ⟨r, D', rfl, hΦ, hown, hs⟩
    refine hK _ _ _ _ ?_ (hpost D' w' hown hs) (k r D' hΦ)
    rw [hdst]
    exact ha.putO hd r
  · cases hc
end
end Go.Proofs.Ytbnjcfhnbjaoiaa.SL
