/- Memory: facts on blocks, rows, views; the operations that make, read and write them. -/
import Derived.Test.YtjhinpmnpdgadaaDoorSLd
namespace Go.Proofs.YtjhinpmnpdgadaaDoor.SL
set_option linter.unusedVariables false
set_option linter.unusedSimpArgs false
open Go

theorem lt_of_heap {w w' : World} {b : Nat} (h : b < w.heap.size) (he : w'.heap[b]? = w.heap[b]?) : b < w'.heap.size :=
  (Array.getElem?_eq_some_iff.1 (he.trans (Array.getElem?_eq_getElem h))).1

theorem add_block (a : Addr) (j : Nat) : (a.add j).block = a.block := by unfold Addr.add; split <;> rfl

/-! ### Facts -/
/-- Block b is known whole, and may be written. -/
def blk (b : Nat) (T : TypeId) (cs : List Value) : Fact where
  own := true
  P := fun w fp => w.heap[b]? = some (.cells cs.toArray T (0, 0)) ∧ ∀ x, fp x ↔ x = b
  loc := fun h hl => ⟨(hl _ ((h.2 _).2 rfl)).trans h.1, h.2⟩
  bnd := fun h x hx => by rw [(h.2 x).1 hx]; exact (Array.getElem?_eq_some_iff.1 h.1).1

/-- From A on these cells can be read. -/
def vw (A : Option Addr) (cs : List Value) : Fact where
  own := false
  P := fun w fp => (∀ x, fp x → x < w.heap.size) ∧ (0 < cs.length → ∃ a, A = some a ∧ fp a.block ∧ ∀ j v, cs[j]? = some v → w.cell? (a.add j) = some v)
  loc := fun h hl => ⟨fun x hx => lt_of_heap (h.1 x hx) (hl x hx), fun hp => by
    obtain ⟨a, h1, h2, h4⟩ := h.2 hp
    exact ⟨a, h1, h2, fun j v hv => by rw [← h4 j v hv]; exact World.cell?_of_block (by rw [add_block]; exact hl _ h2)⟩⟩
  bnd := fun h x hx => h.1 x hx

/-- v is a row of n elements (type T, so many cells each) of which these are the cells; it may be written. -/
def row (T : TypeId) (s : Nat) (v : Value) (n : Nat) (cs : List Value) : Fact where
  own := true
  P := fun w fp => cs.length = n * s ∧ (∀ x, fp x → x < w.heap.size) ∧ ((v = .slice none 0 0 ∧ n = 0) ∨
    ∃ b cap ex, v = .slice (some ⟨b, 0, none⟩) n cap ∧ w.heap[b]? = some (.cells (cs ++ ex).toArray T (0, 0)) ∧ n ≤ cap ∧ cap ≤ maxLen ∧ (cs ++ ex).length = cap * s ∧ ∀ x, fp x ↔ x = b)
  loc := fun h hl => ⟨h.1, fun x hx => lt_of_heap (h.2.1 x hx) (hl x hx), h.2.2.imp id (fun ⟨b, cap, ex, h1, h2, h3, h4, h5, h6⟩ => ⟨b, cap, ex, h1, (hl b ((h6 b).2 rfl)).trans h2, h3, h4, h5, h6⟩)⟩
  bnd := fun h x hx => h.2.1 x hx

theorem perm_pull {D : List Fact} {k : Nat} {f : Fact} (h : D[k]? = some f) : D.Perm (f :: D.eraseIdx k) := by
  obtain ⟨hlt, hg⟩ := List.getElem?_eq_some_iff.1 h
  rw [List.eraseIdx_eq_take_drop_succ]
  have h1 : D = D.take k ++ f :: D.drop (k + 1) := by
    rw [← hg, ← List.drop_eq_getElem_cons hlt, List.take_append_drop]
  have h2 := List.perm_middle (a := f) (l₁ := D.take k) (l₂ := D.drop (k + 1))
  rw [← h1] at h2
  exact h2

theorem SAT.pull {w0 : World} {W : FP} {D : List Fact} {w : World} (h : SAT w0 W D w) {k : Nat} {f : Fact} (hf : D[k]? = some f) : SAT w0 W (f :: D.eraseIdx k) w := h.perm (perm_pull hf)

/-! ### One operation -/
/-- What an operation comes to, in a round and outside. -/
def wp2 (X : Cx) (o : Oper) (a : Act) (w : World) (K : Act → World → Prop) (Q : Exit → Act → World → Prop) : Prop := o.wpIn X.F 0 X.P a w K Q ∧ o.wp X.P a w K Q

def Step (X : Cx) (dst : Option Tmp) (op : Op) (t : Env) (D : List Fact) (φ : Env → List Fact → Prop) : Prop :=
  ∀ o : Oper, o.dst = dst → o.op = op → ∀ ρ a w, EnvOK X.N ρ t a → SAT ρ.w0 ρ.W D w → ∀ (Q : Exit → Act → World → Prop) (K : Act → World → Prop),
    (∀ t' D' a' w', EnvOK X.N ρ t' a' → SAT ρ.w0 ρ.W D' w' → φ t' D' → K a' w') → wp2 X o a w K Q

def opInfo (ops : Array Oper) (i : Nat) (t : Env) : Option (Option Tmp × Op) :=
  match ops[i]? with
  | none => none
  | some o => match gd ops o t with
    | some true => some (o.dst, o.op)
    | _ => none

theorem opInfo_spec {ops : Array Oper} {i : Nat} {t : Env} {dst : Option Tmp} {op : Op} (h : opInfo ops i t = some (dst, op)) : ∃ o, ops[i]? = some o ∧ gd ops o t = some true ∧ o.dst = dst ∧ o.op = op := by
  unfold opInfo at h
  split at h
  · cases h
  · rename_i o ho
    split at h
    · rename_i hg; simp only [Option.some.injEq, Prod.mk.injEq] at h; exact ⟨o, ho, hg, h.1, h.2⟩
    · cases h

theorem RunR.step {X : Cx} {K : Post} {ops : Array Oper} {i : Nat} {t : Env} {D : List Fact} {dst : Option Tmp} {op : Op} (h : opInfo ops i t = some (dst, op))
    (hs : Step X dst op t D (RunR X K ops (i + 1))) : RunR X K ops i t D := by
  obtain ⟨o, ho, hg, hd, hop⟩ := opInfo_spec h
  intro ρ a w ha hw
  rw [drop_cons ho]
  unfold wpListIn
  rw [if_pos (gd_sound ha hg)]
  exact (hs o hd hop ρ a w ha hw _ _ (fun t' D' a' w' h1 h2 h3 => h3 ρ a' w' h1 h2)).1

theorem wp_val {X : Cx} {o : Oper} {a : Act} {w w' : World} {v : Value} {K : Act → World → Prop} {Q : Exit → Act → World → Prop} (hr : (execOp a.eval o).run X.P w = .ok (.value v) w') (k : K (a.put o.dst v) w') : wp2 X o a w K Q := by
  refine ⟨⟨about_any, ?_⟩, ?_⟩
  · rw [sem_of_run hr (fun _ h => by cases h), Oper.uponIn_value]
    exact k
  · unfold Oper.wp
    rw [hr, Oper.upon_value]
    exact k
theorem wp_unit {X : Cx} {o : Oper} {a : Act} {w w' : World} {K : Act → World → Prop} {Q : Exit → Act → World → Prop} (hr : (execOp a.eval o).run X.P w = .ok .skip w') (k : K (a.put o.dst undef) w') : wp2 X o a w K Q := by
  refine ⟨⟨about_any, ?_⟩, ?_⟩
  · rw [sem_of_run hr (fun _ h => by cases h), Oper.uponIn_skip]
    exact k
  · unfold Oper.wp
    rw [hr, Oper.upon_skip]
    exact k

section
variable {X : Cx} {U : Tab} (hU : U.OK X.P) {t : Env} {D : List Fact} {φ : Env → List Fact → Prop}

/-- Turning the facts ahead of an operation. -/
theorem Step.facts {dst : Option Tmp} {op : Op} (D' : List Fact) (hD : ∀ w0 W w, SAT w0 W D w → SAT w0 W D' w) (h : Step X dst op t D' φ) : Step X dst op t D φ :=
  fun o hd ho ρ a w ha hw => h o hd ho ρ a w ha (hD _ _ w hw)

theorem blk_new (w : World) (T : TypeId) (cs : List Value) : (blk w.heap.size T cs).P (w.alloc (.cells cs.toArray T (0, 0))) (fun b => b = w.heap.size) :=
  ⟨heap_alloc_new w _, fun _ => Iff.rfl⟩

theorem Step.box {d : Nat} {ty : TypeId} {x : Operand} (v : Value) (hx : ev t x = some v) (hd : Nat.ble (d + 1) X.N = true) (k : ∀ b, φ (put t d (.pointer (some ⟨b, 0, none⟩))) (blk b ty v.cells.toList :: D)) : Step X (some d) (.box ty x) t D φ := by
  intro o hdst hop ρ a w ha hw Q K hK
  have hr : (execOp a.eval o).run X.P w = .ok (.value (.pointer (some ⟨w.heap.size, 0, none⟩))) (w.alloc (.cells v.cells.toList.toArray ty (0, 0))) := by
    unfold execOp
    simp [hop, ha.ev hx, Instr.box, newVar, newRow]
  refine wp_val hr (hK _ _ _ _ ?_ (hw.alloc _ (blk w.heap.size ty v.cells.toList) rfl (blk_new w ty _)) (k w.heap.size))
  rw [hdst]
  exact ha.put (Nat.le_of_ble_eq_true hd) _

include hU

theorem Step.alloc {d : Nat} {ty : TypeId} (n b : Nat) (z : Value) (hz : look U.ti ty = some (n, b, z)) (hd : Nat.ble (d + 1) X.N = true) (k : ∀ b, φ (put t d (.pointer (some ⟨b, 0, none⟩))) (blk b ty z.cells.toList :: D)) : Step X (some d) (.alloc ty) t D φ := by
  intro o hdst hop ρ a w ha hw Q K hK
  obtain ⟨i, hi, h1, h2, h3⟩ := hU.ti _ (look_mem hz)
  simp only at hi h1 h2 h3
  have hr : (execOp a.eval o).run X.P w = .ok (.value (.pointer (some ⟨w.heap.size, 0, none⟩))) (w.alloc (.cells z.cells.toList.toArray ty (0, 0))) := by
    unfold execOp
    simp [hop, Instr.alloc, zeroValue, typeInfo, hi, h3, newVar, newRow]
  refine wp_val hr (hK _ _ _ _ ?_ (hw.alloc _ (blk w.heap.size ty z.cells.toList) rfl (blk_new w ty _)) (k w.heap.size))
  rw [hdst]
  exact ha.put (Nat.le_of_ble_eq_true hd) _

/-! ### Loads -/
def isRowTy (U : Tab) (ty : TypeId) : Option Bool :=
  match look U.und ty with
  | some (.struct _) | some (.array _ _) => some true
  | some _ => some false
  | none => none

theorem run_isAgg {ty : TypeId} {b : Bool} (h : isRowTy U ty = some b) (w : World) : (isAgg ty).run X.P w = .ok b w := by
  unfold isRowTy at h
  unfold isAgg
  split at h
  · rename_i fs hf; cases h; simp [hU.run_und hf]
  · rename_i n e hf; cases h; simp [hU.run_und hf]
  · rename_i d n1 n2 hf; cases h; rw [Sem.run_bind, hU.run_und hf]; cases d <;> simp_all
  · cases h

/-- What a load of type ty reads at offset o of these cells. -/
def loadv (U : Tab) (ty : TypeId) (cs : List Value) (o : Nat) : Option Value :=
  match isRowTy U ty with
  | some false => cs[o]?
  | some true => match look U.sz ty with
    | some n => match Nat.ble (o + n) cs.length with | true => some (.agg ((cs.drop o).take n).toArray) | false => none
    | none => none
  | none => none

theorem run_loadv {ty : TypeId} {cs : List Value} {o : Nat} {v : Value} (h : loadv U ty cs o = some v) {a : Addr} {w : World} (hc : ∀ j u, cs[o + j]? = some u → w.cell? (a.add j) = some u) : (Instr.loadAt ty (.pointer (some a))).run X.P w = .ok v w := by
  unfold loadv at h
  simp only [Instr.loadAt, Instr.sureAddr, Sem.run_bind, Sem.run_pure, Result.andThen_ok, loadVar]
  split at h
  · rename_i hr
    rw [run_isAgg hU hr]
    have := hc 0 v (by simpa using h)
    simp only [Addr.add, if_true] at this
    simp [this]
  · rename_i hr
    rw [run_isAgg hU hr]
    split at h
    · rename_i n hn
      split at h
      · rename_i hb
        have hb := Nat.le_of_ble_eq_true hb
        cases h
        have hl : ((cs.drop o).take n).length = n := by simp; omega
        have := run_loadCells_list (P := X.P) w a ((cs.drop o).take n) (fun j u hu => hc j u (by
          rw [List.getElem?_take] at hu
          split at hu
          · rwa [List.getElem?_drop] at hu
          · cases hu))
        rw [hl] at this
        simp [hU.run_sz hn, this]
      · cases h
    · cases h
  · cases h

theorem Step.load_blk {d : Nat} {ty : TypeId} {x : Operand} (k0 : Nat) (b o T : Nat) (cs : List Value) (v : Value) (hx : ev t x = some (.pointer (some ⟨b, o, none⟩))) (hD : D[k0]? = some (blk b T cs)) (hv : loadv U ty cs o = some v) (hd : Nat.ble (d + 1) X.N = true)
    (k : φ (put t d v) D) : Step X (some d) (.load ty x) t D φ := by
  intro op hdst hop ρ a w ha hw Q K hK
  obtain ⟨fp, hh, _⟩ := hw.get k0 hD
  have hr : (execOp a.eval op).run X.P w = .ok (.value v) w := by
    unfold execOp
    simp only [hop, ha.ev hx]
    have := run_loadv hU (X := X) hv (a := ⟨b, o, none⟩) (w := w) (fun j u hu => by rw [Addr.add_mid, cell_of_row w b _ _ T _ hh]; simpa using hu)
    rw [Sem.run_bind, this]
    rfl
  refine wp_val hr (hK _ _ _ _ ?_ hw k)
  rw [hdst]
  exact ha.put (Nat.le_of_ble_eq_true hd) _

/-! ### Stores -/
/-- These cells with those written from o on. -/
def wr (cs : List Value) (o : Nat) (us : List Value) : List Value := cs.take o ++ us ++ cs.drop (o + us.length)

omit hU in
theorem length_wr {cs : List Value} {o : Nat} {us : List Value} (h : o + us.length ≤ cs.length) : (wr cs o us).length = cs.length := by
  simp [wr]; omega

omit hU in
theorem sat_setRow {w0 : World} {W : FP} {b T : Nat} {cs cs' : List Value} {w : World} (h : SAT w0 W (blk b T cs :: D) w) : SAT w0 W (blk b T cs' :: D) (w.setRow b cs'.toArray) := by
  obtain ⟨fp0, hh0, _⟩ := h.head
  refine h.change rfl _ rfl rfl rfl rfl (by simp) (fun fp hp => ⟨fun x hx => setRow_other w b x _ (fun e => hx ((hp.2 x).2 e)), setRow_heap w b _ _ T _ hh0, hp.2⟩)

theorem Step.store_blk {ty : TypeId} {x y : Operand} (k0 : Nat) (b o T : Nat) (cs : List Value) (v : Value) (hx : ev t x = some (.pointer (some ⟨b, o, none⟩))) (hy : ev t y = some v) (hD : D[k0]? = some (blk b T cs))
    (n : Nat) (hn : look U.sz ty = some n) (us : List Value) (hus : v.cells.toList = us) (hl : us.length = n) (h1 : us.all (·.oneCell') = true) (hle : o + n ≤ cs.length)
    (k : φ t (blk b T (wr cs o us) :: D.eraseIdx k0)) : Step X none (.store ty x y) t D φ := by
  intro op hdst hop ρ a w ha hw Q K hK
  have hw' : SAT ρ.w0 ρ.W (blk b T cs :: D.eraseIdx k0) w := by
    exact hw.perm (perm_pull hD)
  obtain ⟨fp, hh, _⟩ := hw'.head
  have hst := run_storeCells_at X.P b o T us 0 cs.toArray w hh (by simp; omega) (fun u hu => List.all_eq_true.1 h1 u hu)
  simp only [Nat.add_zero] at hst
  have hr : (execOp a.eval op).run X.P w = .ok .skip (w.setRow b (wr cs o us).toArray) := by
    unfold execOp
    have hsz : ¬ (v.cells.size ≠ n) := by rw [← hl, ← hus]; simp
    simp only [hop, ha.ev hx, ha.ev hy, Instr.storeAt, Instr.sureAddr, storeVar, Sem.run_bind, Sem.run_pure, Result.andThen_ok, hU.run_sz hn, hsz, if_false]
    rw [hus, hst]
    simp [wr]
  refine wp_unit hr (hK _ _ _ _ ?_ (sat_setRow hw') k)
  rw [hdst]
  exact ha
end
end Go.Proofs.YtjhinpmnpdgadaaDoor.SL
