import Derived.Test.YtlibhidhfbecbaaSLd
import Derived.RangeFuncRecord
import Derived.OrdersHeld
/- Memory: facts on blocks, rows, views; the operations that make, read and write them. -/
namespace Go.Proofs.Ytlibhidhfbecbaa.SL
set_option linter.unusedVariables false
set_option linter.unusedSimpArgs false
open Go

theorem lt_of_heap {w w' : World} {b : Nat} (h : b < w.heap.size) (he : w'.heap[b]? = w.heap[b]?) : b < w'.heap.size :=
  (Array.getElem?_eq_some_iff.1 (he.trans (Array.getElem?_eq_getElem h))).1

theorem add_block (a : Addr) (j : Nat) : (a.add j).block = a.block := by unfold Addr.add; split <;> rfl

def blk (b : Nat) (T : TypeId) (cs : List Value) : Fact where
  own := true
  P := fun w fp => w.heap[b]? = some (.cells cs.toArray T (0, 0)) ∧ ∀ x, fp x ↔ x = b
  loc := fun h hl => ⟨(hl _ ((h.2 _).2 rfl)).trans h.1, h.2⟩
  bnd := fun h x hx => by rw [(h.2 x).1 hx]; exact (Array.getElem?_eq_some_iff.1 h.1).1

def vw (A : Option Addr) (cs : List Value) : Fact where
  own := false
  P := fun w fp => (∀ x, fp x → x < w.heap.size) ∧ (0 < cs.length → ∃ a, A = some a ∧ fp a.block ∧ ∀ j v, cs[j]? = some v → w.cell? (a.add j) = some v)
  loc := fun h hl => ⟨fun x hx => lt_of_heap (h.1 x hx) (hl x hx), fun hp => by
    obtain ⟨a, h1, h2, h4⟩ := h.2 hp
    exact ⟨a, h1, h2, fun j v hv => by rw [← h4 j v hv]; exact World.cell?_of_block (by rw [add_block]; exact hl _ h2)⟩⟩
  bnd := fun h x hx => h.1 x hx

def row (T : TypeId) (s : Nat) (v : Value) (n : Nat) (cs : List Value) : Fact where
  own := true
  P := fun w fp => cs.length = n * s ∧ (∀ x, fp x → x < w.heap.size) ∧ ((v = .slice none 0 0 ∧ n = 0) ∨
    ∃ b cap ex, v = .slice (some ⟨b, 0, none⟩) n cap ∧ w.heap[b]? = some (.cells (cs ++ ex).toArray T (0, 0)) ∧ n ≤ cap ∧ cap ≤ maxLen ∧ (cs ++ ex).length = cap * s ∧ ∀ x, fp x ↔ x = b)
  loc := fun h hl => ⟨h.1, fun x hx => lt_of_heap (h.2.1 x hx) (hl x hx), h.2.2.imp id (fun ⟨b, cap, ex, h1, h2, h3, h4, h5, h6⟩ => ⟨b, cap, ex, h1, (hl b ((h6 b).2 rfl)).trans h2, h3, h4, h5, h6⟩)⟩
  bnd := fun h x hx => h.2.1 x hx

theorem perm_pull {D : List Fact} {k : Nat} {f : Fact} (h : D[k]? = some f) : D.Perm (f :: D.eraseIdx k) := by
  obtain ⟨hlt, hg⟩ := List.getElem?_eq_some_iff.1 h
  rw [List.eraseIdx_eq_take_drop_succ]
  have h1 : D = D.take k ++ f :: D.drop (k + 1) := by
    rw [← hg, ← List.drop_eq_getElem_cons hlt, List.take_append_drop]
  have h2 := List.perm_middle (a := f) (l₁ := D.take k) (l₂ := D.drop (k + 1))
  rw [← h1] at h2
  exact h2

theorem SAT.pull {w0 : World} {W : FP} {D : List Fact} {w : World} (h : SAT w0 W D w) {k : Nat} {f : Fact} (hf : D[k]? = some f) : SAT w0 W (f :: D.eraseIdx k) w := h.perm (perm_pull hf)

def wp2 (X : Cx) (o : Oper) (a : Act) (w : World) (K : Act → World → Prop) (Q : Exit → Act → World → Prop) : Prop := o.wpIn X.F 0 X.P a w K Q ∧ o.wp X.P a w K Q

def Step (X : Cx) (dst : Option Tmp) (op : Op) (t : Env) (D : List Fact) (φ : Env → List Fact → Prop) : Prop :=
  ∀ o : Oper, o.dst = dst → o.op = op → ∀ ρ a w, EnvOK X.N ρ t a → SAT ρ.w0 ρ.W D w → ∀ (Q : Exit → Act → World → Prop) (K : Act → World → Prop),
    (∀ t' D' a' w', EnvOK X.N ρ t' a' → SAT ρ.w0 ρ.W D' w' → φ t' D' → K a' w') → wp2 X o a w K Q

def opInfo (ops : Array Oper) (i : Nat) (t : Env) : Option (Option Tmp × Op) :=
  match ops[i]? with
  | none => none
  | some o => match gd ops o t with
    | some true => some (o.dst, o.op)
    | _ => none

theorem opInfo_spec {ops : Array Oper} {i : Nat} {t : Env} {dst : Option Tmp} {op : Op} (h : opInfo ops i t = some (dst, op)) : ∃ o, ops[i]? = some o ∧ gd ops o t = some true ∧ o.dst = dst ∧ o.op = op := by
  unfold opInfo at h
  split at h
  · cases h
  · rename_i o ho
    split at h
    · rename_i hg; simp only [Option.some.injEq, Prod.mk.injEq] at h; exact ⟨o, ho, hg, h.1, h.2⟩
    · cases h

theorem RunR.step {X : Cx} {K : Post} {ops : Array Oper} {i : Nat} {t : Env} {D : List Fact} {dst : Option Tmp} {op : Op} (h : opInfo ops i t = some (dst, op))
    (hs : Step X dst op t D (RunR X K ops (i + 1))) : RunR X K ops i t D := by
  obtain ⟨o, ho, hg, hd, hop⟩ := opInfo_spec h
  intro ρ a w ha hw
  rw [drop_cons ho]
  unfold wpListIn
  rw [if_pos (gd_sound ha hg)]
  exact (hs o hd hop ρ a w ha hw _ _ (fun t' D' a' w' h1 h2 h3 => h3 ρ a' w' h1 h2)).1

theorem wp_val {X : Cx} {o : Oper} {a : Act} {w w' : World} {v : Value} {K : Act → World → Prop} {Q : Exit → Act → World → Prop} (hr : (execOp a.eval o).run X.P w = .ok (.value v) w') (k : K (a.put o.dst v) w') : wp2 X o a w K Q := by
  refine ⟨⟨about_any, ?_⟩, ?_⟩
  · rw [sem_of_run hr (fun _ h => by cases h), Oper.uponIn_value]
    exact k
  · unfold Oper.wp
    rw [hr, Oper.upon_value]
    exact k
theorem wp_unit {X : Cx} {o : Oper} {a : Act} {w w' : World} {K : Act → World → Prop} {Q : Exit → Act → World → Prop} (hr : (execOp a.eval o).run X.P w = .ok .skip w') (k : K (a.put o.dst undef) w') : wp2 X o a w K Q := by
  refine ⟨⟨about_any, ?_⟩, ?_⟩
  · rw [sem_of_run hr (fun _ h => by cases h), Oper.uponIn_skip]
    exact k
  · unfold Oper.wp
    rw [hr, Oper.upon_skip]
    exact k

section
variable {X : Cx} {U : Tab} (hU : U.OK X.P) {t : Env} {D : List Fact} {φ : Env → List Fact → Prop}

theorem Step.facts {dst : Option Tmp} {op : Op} (D' : List Fact) (hD : ∀ w0 W w, SAT w0 W D w → SAT w0 W D' w) (h : Step X dst op t D' φ) : Step X dst op t D φ :=
  fun o hd ho ρ a w ha hw => h o hd ho ρ a w ha (hD _ _ w hw)

theorem blk_new (w : World) (T : TypeId) (cs : List Value) : (blk w.heap.size T cs).P (w.alloc (.cells cs.toArray T (0, 0))) (fun b => b = w.heap.size) :=
  ⟨heap_alloc_new w _, fun _ => Iff.rfl⟩

theorem Step.box {d : Nat} {ty : TypeId} {x : Operand} (v : Value) (hx : ev t x = some v) (hd : Nat.ble (d + 1) X.N = true) (k : ∀ b, φ (put t d (.pointer (some ⟨b, 0, none⟩))) (blk b ty v.cells.toList :: D)) : Step X (some d) (.box ty x) t D φ := by
  intro o hdst hop ρ a w ha hw Q K hK
  have hr : (execOp a.eval o).run X.P w = .ok (.value (.pointer (some ⟨w.heap.size, 0, none⟩))) (w.alloc (.cells v.cells.toList.toArray ty (0, 0))) := by
    unfold execOp
    simp [hop, ha.ev hx, Instr.box, newVar, newRow]
  refine wp_val hr (hK _ _ _ _ ?_ (hw.alloc _ (blk w.heap.size ty v.cells.toList) rfl (blk_new w ty _)) (k w.heap.size))
  rw [hdst]
  exact ha.put (Nat.le_of_ble_eq_true hd) _

include hU

theorem Step.alloc {d : Nat} {ty : TypeId} (n b : Nat) (z : Value) (hz : look U.ti ty = some (n, b, z)) (hd : Nat.ble (d + 1) X.N = true) (k : ∀ b, φ (put t d (.pointer (some ⟨b, 0, none⟩))) (blk b ty z.cells.toList :: D)) : Step X (some d) (.alloc ty) t D φ := by
  intro o hdst hop ρ a w ha hw Q K hK
  obtain ⟨i, hi, h1, h2, h3⟩ := hU.ti _ (look_mem hz)
  simp only at hi h1 h2 h3
  have hr : (execOp a.eval o).run X.P w = .ok (.value (.pointer (some ⟨w.heap.size, 0, none⟩))) (w.alloc (.cells z.cells.toList.toArray ty (0, 0))) := by
    unfold execOp
    simp [hop, Instr.alloc, zeroValue, typeInfo, hi, h3, newVar, newRow]
  refine wp_val hr (hK _ _ _ _ ?_ (hw.alloc _ (blk w.heap.size ty z.cells.toList) rfl (blk_new w ty _)) (k w.heap.size))
  rw [hdst]
  exact ha.put (Nat.le_of_ble_eq_true hd) _

def isRowTy (U : Tab) (ty : TypeId) : Option Bool :=
  match look U.und ty with
  | some (.struct _) | some (.array _ _) => some true
  | some _ => some false
  | none => none

theorem run_isAgg {ty : TypeId} {b : Bool} (h : isRowTy U ty = some b) (w : World) : (isAgg ty).run X.P w = .ok b w := by
  unfold isRowTy at h
  unfold isAgg
  split at h
  · rename_i fs hf; cases h; simp [hU.run_und hf]
  · rename_i n e hf; cases h; simp [hU.run_und hf]
  · rename_i d n1 n2 hf; cases h; rw [Sem.run_bind, hU.run_und hf]; cases d <;> simp_all
  · cases h

def loadv (U : Tab) (ty : TypeId) (cs : List Value) (o : Nat) : Option Value :=
  match isRowTy U ty with
  | some false => cs[o]?
  | some true => match look U.sz ty with
    | some n => match Nat.ble (o + n) cs.length with | true => some (.agg ((cs.drop o).take n).toArray) | false => none
    | none => none
  | none => none

theorem run_loadv {ty : TypeId} {cs : List Value} {o : Nat} {v : Value} (h : loadv U ty cs o = some v) {a : Addr} {w : World} (hc : ∀ j u, cs[o + j]? = some u → w.cell? (a.add j) = some u) : (Instr.loadAt ty (.pointer (some a))).run X.P w = .ok v w := by
  unfold loadv at h
  simp only [Instr.loadAt, Instr.sureAddr, Sem.run_bind, Sem.run_pure, Result.andThen_ok, loadVar]
  split at h
  · rename_i hr
    rw [run_isAgg hU hr]
    have := hc 0 v (by simpa using h)
    simp only [Addr.add, if_true] at this
    simp [this]
  · rename_i hr
    rw [run_isAgg hU hr]
    split at h
    · rename_i n hn
      split at h
      · rename_i hb
        have hb := Nat.le_of_ble_eq_true hb
        cases h
        have hl : ((cs.drop o).take n).length = n := by simp; omega
        have := run_loadCells_list (P := X.P) w a ((cs.drop o).take n) (fun j u hu => hc j u (by
          rw [List.getElem?_take] at hu
          split at hu
          · rwa [List.getElem?_drop] at hu
          · cases hu))
        rw [hl] at this
        simp [hU.run_sz hn, this]
      · cases h
    · cases h
  · cases h

theorem Step.load_blk {d : Nat} {ty : TypeId} {x : Operand} (k0 : Nat) (b o T : Nat) (cs : List Value) (v : Value) (hx : ev t x = some (.pointer (some ⟨b, o, none⟩))) (hD : D[k0]? = some (blk b T cs)) (hv : loadv U ty cs o = some v) (hd : Nat.ble (d + 1) X.N = true)
    (k : φ (put t d v) D) : Step X (some d) (.load ty x) t D φ := by
  intro op hdst hop ρ a w ha hw Q K hK
  obtain ⟨fp, hh, _⟩ := hw.get k0 hD
  have hr : (execOp a.eval op).run X.P w = .ok (.value v) w := by
    unfold execOp
    simp only [hop, ha.ev hx]
    have := run_loadv hU (X := X) hv (a := ⟨b, o, none⟩) (w := w) (fun j u hu => by rw [Addr.add_mid, cell_of_row w b _ _ T _ hh]; simpa using hu)
    rw [Sem.run_bind, this]
    rfl
  refine wp_val hr (hK _ _ _ _ ?_ hw k)
  rw [hdst]
  exact ha.put (Nat.le_of_ble_eq_true hd) _

def wr (cs : List Value) (o : Nat) (us : List Value) : List Value := cs.take o ++ us ++ cs.drop (o + us.length)

omit hU in
theorem length_wr {cs : List Value} {o : Nat} {us : List Value} (h : o + us.length ≤ cs.length) : (wr cs o us).length = cs.length := by
  simp [wr]; omega

omit hU in
theorem sat_setRow {w0 : World} {W : FP} {b T : Nat} {cs cs' : List Value} {w : World} (h : SAT w0 W (blk b T cs :: D) w) : SAT w0 W (blk b T cs' :: D) (w.setRow b cs'.toArray) := by
  obtain ⟨fp0, hh0, _⟩ := h.head
  refine h.change rfl _ rfl rfl rfl rfl (by simp) (fun fp hp => ⟨fun x hx => setRow_other w b x _ (fun e => hx ((hp.2 x).2 e)), setRow_heap w b _ _ T _ hh0, hp.2⟩)

theorem Step.store_blk {ty : TypeId} {x y : Operand} (k0 : Nat) (b o T : Nat) (cs : List Value) (v : Value) (hx : ev t x = some (.pointer (some ⟨b, o, none⟩))) (hy : ev t y = some v) (hD : D[k0]? = some (blk b T cs))
    (n : Nat) (hn : look U.sz ty = some n) (us : List Value) (hus : v.cells.toList = us) (hl : us.length = n) (h1 : us.all (·.oneCell') = true) (hle : o + n ≤ cs.length)
    (k : φ t (blk b T (wr cs o us) :: D.eraseIdx k0)) : Step X none (.store ty x y) t D φ := by
  intro op hdst hop ρ a w ha hw Q K hK
  have hw' : SAT ρ.w0 ρ.W (blk b T cs :: D.eraseIdx k0) w := by
    exact hw.perm (perm_pull hD)
  obtain ⟨fp, hh, _⟩ := hw'.head
  have hst := run_storeCells_at X.P b o T us 0 cs.toArray w hh (by simp; omega) (fun u hu => List.all_eq_true.1 h1 u hu)
  simp only [Nat.add_zero] at hst
  have hr : (execOp a.eval op).run X.P w = .ok .skip (w.setRow b (wr cs o us).toArray) := by
    unfold execOp
    have hsz : ¬ (v.cells.size ≠ n) := by rw [← hl, ← hus]; simp
    simp only [hop, ha.ev hx, ha.ev hy, Instr.storeAt, Instr.sureAddr, storeVar, Sem.run_bind, Sem.run_pure, Result.andThen_ok, hU.run_sz hn, hsz, if_false]
    rw [hus, hst]
    simp [wr]
  refine wp_unit hr (hK _ _ _ _ ?_ (sat_setRow hw') k)
  rw [hdst]
  exact ha
end
end Go.Proofs.Ytlibhidhfbecbaa.SL

/- Rows: made, grown, copied; facts turned into one another; calls and contracts. -/
namespace Go.Proofs.Ytlibhidhfbecbaa.SL
set_option linter.unusedVariables false
set_option linter.unusedSimpArgs false
open Go

section
variable {w0 : World} {W : FP} {D : List Fact} {w : World}

theorem SAT.row_of_blk {b T s n cap : Nat} {cs : List Value} (h : SAT w0 W (blk b T cs :: D) w) (hn : n ≤ cap) (hc : cap ≤ maxLen) (hl : cs.length = cap * s) : SAT w0 W (row T s (.slice (some ⟨b, 0, none⟩) n cap) n (cs.take (n * s)) :: D) w := by
  refine h.turn _ rfl (fun fp hp => ⟨?_, fun x hx => (blk b T cs).bnd hp x hx, .inr ⟨b, cap, cs.drop (n * s), rfl, by rw [List.take_append_drop]; exact hp.1, hn, hc, by rw [List.take_append_drop]; exact hl, hp.2⟩⟩)
  rw [List.length_take, hl]
  exact Nat.min_eq_left (Nat.mul_le_mul_right _ hn)

theorem row_open {T s n : Nat} {v : Value} {cs : List Value} (h : SAT w0 W (row T s v n cs :: D) w) (hn : 0 < n) :
    ∃ b cap ex, v = .slice (some ⟨b, 0, none⟩) n cap ∧ n ≤ cap ∧ cap ≤ maxLen ∧ (cs ++ ex).length = cap * s ∧ SAT w0 W (blk b T (cs ++ ex) :: D) w := by
  obtain ⟨fp, _, _, h1⟩ := h.head
  rcases h1 with ⟨_, h1⟩ | ⟨b, cap, ex, rfl, h2, h3, h4, h5, h6⟩
  · omega
  · refine ⟨b, cap, ex, rfl, h3, h4, h5, h.turn _ rfl (fun fp hp => ?_)⟩
    rcases hp.2.2 with ⟨hv, _⟩ | ⟨b', cap', ex', hv, h2', _, _, _, h6'⟩
    · cases hv
    · injection hv with hv1 _ hv3
      injection hv1 with hv1
      injection hv1 with hv1
      subst hv1
      exact ⟨h2, h6'⟩

theorem row_len {T s n : Nat} {v : Value} {cs : List Value} (h : SAT w0 W (row T s v n cs :: D) w) : cs.length = n * s ∧ n ≤ maxLen := by
  obtain ⟨fp, h0, _, h1⟩ := h.head
  refine ⟨h0, ?_⟩
  rcases h1 with ⟨_, rfl⟩ | ⟨b, cap, ex, _, _, h3, h4, _⟩
  · exact Nat.zero_le _
  · omega

theorem row_form {T s n : Nat} {v : Value} {cs : List Value} (h : SAT w0 W (row T s v n cs :: D) w) : ∃ A cap, v = .slice A n cap ∧ n ≤ cap ∧ (0 < n → A.isSome = true) := by
  obtain ⟨fp, h0, _, h1⟩ := h.head
  rcases h1 with ⟨rfl, rfl⟩ | ⟨b, cap, ex, rfl, _, h3, h4, _⟩
  · exact ⟨none, 0, rfl, Nat.le_refl _, fun h => by omega⟩
  · exact ⟨_, cap, rfl, h3, fun _ => rfl⟩

theorem SAT.nil_row (h : SAT w0 W D w) (T s : Nat) : SAT w0 W (row T s (.slice none 0 0) 0 [] :: D) w := by
  obtain ⟨fr, O, R, h1, h2⟩ := h
  exact ⟨fr, O, R, ⟨fun _ => False, ⟨by simp, fun _ hx => hx.elim, .inl ⟨rfl, rfl⟩⟩, fun _ hx => hx.elim, sat_mono h1 (fun _ hb => ⟨hb, fun h => h⟩) (fun _ hb => hb)⟩, h2⟩

theorem SAT.nil_vw (h : SAT w0 W D w) (A : Option Addr) : SAT w0 W (vw A [] :: D) w := by
  obtain ⟨fr, O, R, h1, h2⟩ := h
  exact ⟨fr, O, R, ⟨fun _ => False, ⟨fun _ hx => hx.elim, fun h => by simp at h⟩, fun _ hx => hx.elim, h1⟩, h2⟩

end

theorem vw_part {A : Option Addr} {cs : List Value} (l m s : Nat) (us : List Value) (hu : us = (cs.drop (l * s)).take us.length) (hm : us ≠ [] → m ≠ l) (w : World) (fp : FP) (h : (vw A cs).P w fp) :
    ∃ q : FP, (∀ b, q b → fp b) ∧ (vw (subBase A l m s) us).P w q := by
  refine ⟨fp, fun _ hb => hb, h.1, fun hp => ?_⟩
  have hlen : l * s + us.length ≤ cs.length := by
    have := congrArg List.length hu
    simp at this
    omega
  obtain ⟨a, rfl, h2, h3⟩ := h.2 (by omega)
  have hne : us ≠ [] := fun e => by rw [e] at hp; simp at hp
  refine ⟨a.add (l * s), by simp [subBase, hm hne], by rw [add_block]; exact h2, fun j v hv => ?_⟩
  have hv' : cs[l * s + j]? = some v := by
    rw [hu, List.getElem?_take] at hv
    split at hv
    · rwa [List.getElem?_drop] at hv
    · cases hv
  have := h3 _ _ hv'
  have e : (a.add (l * s)).add j = a.add (l * s + j) ∨ (j = 0 ∧ (a.add (l * s)).add j = a.add (l * s)) := by
    rcases Nat.eq_zero_or_pos j with hj | hj
    · right; exact ⟨hj, by subst hj; simp [Addr.add]⟩
    · left
      generalize l * s = p
      unfold Addr.add
      by_cases h0 : p = 0
      · subst h0
        simp [show j ≠ 0 by omega]
      · simp [show j ≠ 0 by omega, h0, show p + j ≠ 0 by omega, Nat.add_assoc]
  rcases e with e | ⟨hj, e⟩
  · rw [e]; exact this
  · rw [e, ← show l * s + j = l * s by omega]; exact this

theorem vw_of_blk {b T : Nat} {cs : List Value} (o : Nat) (us : List Value) (hu : us = (cs.drop o).take us.length) (w : World) (fp : FP) (h : (blk b T cs).P w fp) :
    ∃ q : FP, (∀ x, q x → fp x) ∧ (vw (some ⟨b, o, none⟩) us).P w q := by
  refine ⟨fp, fun _ hb => hb, fun x hx => (blk b T cs).bnd h x hx, fun hp => ⟨_, rfl, (h.2 b).2 rfl, fun j v hv => ?_⟩⟩
  rw [Addr.add_mid, cell_of_row w b _ _ T _ h.1]
  rw [hu, List.getElem?_take] at hv
  split at hv
  · rw [List.getElem?_drop] at hv; simpa using hv
  · cases hv

theorem vw_of_row {T s n cap : Nat} {A : Option Addr} {cs : List Value} (w : World) (fp : FP) (h : (row T s (.slice A n cap) n cs).P w fp) :
    ∃ q : FP, (∀ x, q x → fp x) ∧ (vw A cs).P w q := by
  obtain ⟨h0, hb, h1⟩ := h
  refine ⟨fp, fun _ hb => hb, hb, fun hp => ?_⟩
  rcases h1 with ⟨hv, hn⟩ | ⟨b, cap', ex, hv, h2, h3, h4, h5, h6⟩
  · rw [h0, hn] at hp; simp at hp
  · injection hv with hv
    subst hv
    refine ⟨_, rfl, (h6 b).2 rfl, fun j v hv => ?_⟩
    rw [Addr.add_mid, cell_of_row w b _ _ T _ h2]
    simp only [Nat.zero_add, List.getElem?_toArray]
    rw [List.getElem?_append_left (List.getElem?_eq_some_iff.1 hv).1]
    exact hv

def pair (f g : Fact) : Fact where
  own := true
  P := fun w fp => ∃ q1 q2 : FP, (∀ b, q1 b → fp b) ∧ (∀ b, q2 b → fp b) ∧ (∀ b, fp b → q1 b ∨ q2 b) ∧ f.P w q1 ∧ g.P w q2
  loc := fun ⟨q1, q2, h1, h2, h3, h4, h5⟩ hl => ⟨q1, q2, h1, h2, h3, f.loc h4 (fun b hb => hl b (h1 b hb)), g.loc h5 (fun b hb => hl b (h2 b hb))⟩
  bnd := fun ⟨q1, q2, h1, h2, h3, h4, h5⟩ b hb => (h3 b hb).elim (f.bnd h4 b) (g.bnd h5 b)

theorem SAT.shrink {w0 : World} {W : FP} {D : List Fact} {w : World} {f g : Fact} (h : SAT w0 W (f :: D) w) (hf : f.own = true) (hg : g.own = true) (hP : ∀ fp, f.P w fp → ∃ q : FP, (∀ b, q b → fp b) ∧ g.P w q) : SAT w0 W (g :: D) w := by
  obtain ⟨fr, O, R, ⟨fp, hp, h1⟩, h2⟩ := h
  rw [hf] at h1
  obtain ⟨q, hq, hgq⟩ := hP fp hp
  refine ⟨fr, O, R, ⟨q, hgq, ?_⟩, h2⟩
  rw [hg]
  exact ⟨fun b hb => h1.1 b (hq b hb), sat_mono h1.2 (fun b hb => ⟨hb.1, fun h => hb.2 (hq b h)⟩) (fun _ hb => hb)⟩
theorem SAT.pairR {w0 : World} {W : FP} {D : List Fact} {w : World} {f g : Fact} (h : SAT w0 W (pair f g :: D) w) (hg : g.own = true) : SAT w0 W (g :: D) w :=
  h.shrink rfl hg (fun _ ⟨_, q2, _, h2, _, _, h5⟩ => ⟨q2, h2, h5⟩)
theorem SAT.pairUp {w0 : World} {W : FP} {D : List Fact} {w : World} {f g : Fact} (hf : f.own = true) (hg : g.own = true) (h : SAT w0 W (g :: f :: D) w) : SAT w0 W (pair f g :: D) w := by
  obtain ⟨fr, O, R, ⟨fp, hp, h1⟩, h2⟩ := h
  rw [hg] at h1
  obtain ⟨h1, fq, hq, h3⟩ := h1
  rw [hf] at h3
  refine ⟨fr, O, R, ⟨fun b => fp b ∨ fq b, ⟨fq, fp, fun _ h => .inr h, fun _ h => .inl h, fun _ h => h.symm, hq, hp⟩, ?_⟩, h2⟩
  exact ⟨fun b hb => hb.elim (h1 b) (fun h => (h3.1 b h).1), sat_mono h3.2 (fun b hb => ⟨hb.1.1, fun h => h.elim hb.1.2 hb.2⟩) (fun _ hb => hb)⟩
theorem SAT.pairSame {w0 : World} {W : FP} {D : List Fact} {w : World} {f g : Fact} (hf : f.own = true) (h : SAT w0 W (f :: D) w) (hP : ∀ fp, f.P w fp → g.P w fp) : SAT w0 W (pair f g :: D) w :=
  h.turn _ hf.symm (fun fp hp => ⟨fp, fp, fun _ h => h, fun _ h => h, fun _ h => .inl h, hp, hP fp hp⟩)

section
variable {X : Cx} {U : Tab} (hU : U.OK X.P) {t : Env} {D : List Fact} {φ : Env → List Fact → Prop}

omit hU in
theorem vw_cells {A : Option Addr} {cs : List Value} {w : World} {fp : FP} (h : (vw A cs).P w fp) (hp : 0 < cs.length) : ∃ a, A = some a ∧ ∀ j v, cs[j]? = some v → w.cell? (a.add j) = some v := by
  obtain ⟨a, h1, _, h2⟩ := h.2 hp
  exact ⟨a, h1, h2⟩

include hU

theorem Step.make {d : Nat} {ty : TypeId} {x y : Operand} (e s by_ : Nat) (z : Value) (kl kc : IntKind) (l c : Int) (hty : look U.und ty = some (.slice e)) (hti : look U.ti e = some (s, by_, z)) (hx : ev t x = some (.int kl l)) (hy : ev t y = some (.int kc c))
    (h0 : 0 ≤ l) (hlc : l ≤ c) (hb : (by_ : Int) * c ≤ 281474976710656) (h63 : c ≤ 9223372036854775807) (hd : Nat.ble (d + 1) X.N = true)
    (k : ∀ b, φ (put t d (.slice (some ⟨b, 0, none⟩) l.toNat c.toNat)) (blk b e (madeCells z.cells (c.toNat * s)).toList :: D)) : Step X (some d) (.makeSlice ty x y) t D φ := by
  intro o hdst hop ρ a w ha hw Q K hK
  obtain ⟨i, hi, h1, h2, h3⟩ := hU.ti _ (look_mem hti)
  simp only at hi h1 h2 h3
  subst h1; subst h2
  have hrun := run_make (P := X.P) w ty e i z (hU.und _ (look_mem hty)) hi h3 kl kc l c h0 hlc hb h63
  have hr : (execOp a.eval o).run X.P w = .ok (.value (.slice (some ⟨w.heap.size, 0, none⟩) l.toNat c.toNat)) (w.alloc (.cells (madeCells z.cells (c.toNat * i.size)).toList.toArray e (0, 0))) := by
    unfold execOp
    simp only [hop, ha.ev hx, ha.ev hy, Sem.run_bind, hrun, Result.andThen_ok]
    simp
  refine wp_val hr (hK _ _ _ _ ?_ (hw.alloc _ (blk w.heap.size e _) rfl (blk_new w e _)) (k w.heap.size))
  rw [hdst]
  exact ha.put (Nat.le_of_ble_eq_true hd) _

theorem Step.append0 {d : Nat} {ty : TypeId} {x y : Operand} (e s by_ : Nat) (z : Value) (k0 k1 : Nat) (v : Value) (n : Nat) (cs : List Value) (A : Option Addr) (m c : Nat) (f : Fact) (us : List Value)
    (hty : look U.und ty = some (.slice e)) (hti : look U.ti e = some (s, by_, z)) (hzs : z.cells.size = s) (hs0 : 0 < s)
    (hx : ev t x = some v) (hy : ev t y = some (.slice A m c)) (hD : D[k0]? = some (row e s v n cs)) (hf : D[k1]? = some f) (hfu : ∀ w fp, f.P w fp → ∃ q : FP, (∀ b, q b → fp b) ∧ (vw A us).P w q)
    (hul : us.length = m * s) (h1 : ∀ u ∈ us, u.oneCell' = true) (h63 : n + m ≤ 140737488355328) (hb : (n + m) * by_ ≤ 140737488355328) (hd : Nat.ble (d + 1) X.N = true)
    (k : ∀ v', (∃ B cap, v' = .slice B (n + m) cap ∧ (0 < n + m → B.isSome = true)) → φ (put t d v') (pair (row e s v n cs) (row e s v' (n + m) (cs ++ us)) :: D.eraseIdx k0)) : Step X (some d) (.call { callee := .builtin .append, args := #[x, y], argTypes := #[ty, ty] }) t D φ := by
  intro o hdst hop ρ a w ha hw Q K hK
  obtain ⟨i, hi, h1', h2', h3⟩ := hU.ti _ (look_mem hti)
  simp only at hi h1' h2' h3
  subst h1'; subst h2'
  have hmx : n + m ≤ maxLen := by simp only [maxLen]; omega
  have ht := hU.und _ (look_mem hty)
  simp only at ht
  have hw' := hw.pull hD
  obtain ⟨fpr, hc0, hbd, hform⟩ := hw'.head
  obtain ⟨fpf, hfP⟩ := hw.get k1 hf
  obtain ⟨q, _, hvw⟩ := hfu w fpf hfP
  have hlen : (cs ++ us).length = (n + m) * i.size := by rw [List.length_append, hc0, hul, Nat.add_mul]
  -- what the operation comes to, out of the builtin's run
  have fin : ∀ (v' : Value) (w' : World), (Builtin.append_ #[ty, ty] o.type #[v, .slice A m c]).run X.P w = .ok v' w' → SAT ρ.w0 ρ.W (pair (row e i.size v n cs) (row e i.size v' (n + m) (cs ++ us)) :: D.eraseIdx k0) w' →
      (∃ B cap, v' = .slice B (n + m) cap ∧ (0 < n + m → B.isSome = true)) → wp2 X o a w K Q := by
    intro v' w' hrun hsat hv'
    have hr : (execOp a.eval o).run X.P w = .ok (.value v') w' := by
      unfold execOp
      simp only [hop, resolve, invoke, builtin, Sem.run_bind, Sem.run_pure, Result.andThen_ok, List.map_toArray, List.map_cons, List.map_nil, ha.ev hx, ha.ev hy, hrun]
    refine wp_val hr (hK _ _ _ _ ?_ hsat (k v' hv'))
    rw [hdst]
    exact ha.put (Nat.le_of_ble_eq_true hd) _
  -- a new row
  have grown : ∀ (old : Nat), SAT ρ.w0 ρ.W (row e i.size v n cs :: D.eraseIdx k0) w → SAT ρ.w0 ρ.W (pair (row e i.size v n cs) (row e i.size (.slice (some ⟨w.heap.size, 0, none⟩) (n + m) (grownCap w (n + m) old e)) (n + m) (cs ++ us)) :: D.eraseIdx k0)
      (w.drew.alloc (.cells (cs.toArray ++ us.toArray ++ Builtin.zeroCells z.cells (grownCap w (n + m) old e - (n + m))) e)) := by
    intro old hs
    have hge := grownCap_ge w (n + m) old e
    have hcm := grownCap_le_maxLen w (n + m) old e hmx
    refine SAT.pairUp rfl rfl (hs.drew.alloc _ _ rfl ⟨hlen, ?_, .inr ⟨w.heap.size, _, (Builtin.zeroCells z.cells (grownCap w (n + m) old e - (n + m))).toList, rfl, ?_, hge, hcm, ?_, fun x => Iff.rfl⟩⟩)
    · rintro x rfl
      show w.heap.size < _
      simp
    · rw [show w.heap.size = w.drew.heap.size from rfl, heap_alloc_new]
      congr 2
      simp
    · rw [List.length_append, hlen, Array.length_toList, size_zeroCells, hzs, ← Nat.add_mul]
      congr 1
      omega
  by_cases hm : m = 0
  · -- nothing is added
    subst hm
    have hu0 : us = [] := List.eq_nil_of_length_eq_zero (by simpa using hul)
    subst hu0
    have hzero : ∀ (B : Option Addr) (cp : Nat), n ≤ cp → (Builtin.append_ #[ty, ty] o.type #[.slice B n cp, .slice A 0 c]).run X.P w = .ok (.slice B n cp) w := by
      intro B cp hn
      have hfc : (Builtin.firstCells i.size 0 (.slice A 0 c)).run X.P w = .ok #[] w := by
        cases A <;> simp [Builtin.firstCells, loadCells, loadCellsFrom]
      cases B with
      | none => simp [Builtin.append_, run_underlying ht, sizeOf, typeInfo, hi, Builtin.lenOf, hn, hfc]
      | some B => simp [Builtin.append_, run_underlying ht, sizeOf, typeInfo, hi, Builtin.lenOf, hn, hfc, storeCells]
    rcases hform with ⟨rfl, rfl⟩ | ⟨b, cap, ex, rfl, hh, hnc, hcm, hex, hfp⟩
    · refine fin _ w (hzero none 0 (Nat.le_refl _)) ?_ ⟨none, 0, rfl, fun h => by omega⟩
      exact SAT.pairSame rfl (by simpa using hw') (by simp)
    · refine fin _ w (hzero _ cap hnc) ?_ ⟨_, cap, rfl, fun _ => rfl⟩
      exact SAT.pairSame rfl (by simpa using hw') (by simp)
  · have hp : 0 < us.length := by rw [hul]; exact Nat.mul_pos (Nat.pos_of_ne_zero hm) hs0
    obtain ⟨ad, rfl, hcells⟩ := vw_cells hvw hp
    rcases hform with ⟨rfl, rfl⟩ | ⟨b, cap, ex, rfl, hh, hnc, hcm, hex, hfp⟩
    · have hcs : cs = [] := List.eq_nil_of_length_eq_zero (by simpa using hc0)
      subst hcs
      have hr := run_append_nil (P := X.P) w ty o.type e i z ht hi h3 ad m c us hul hcells (by omega) (by omega) (by have hb := hb; simp only [Nat.zero_add] at hb; omega)
      have hg := grown 0 hw'
      simp only [Nat.zero_add, List.nil_append, Array.empty_append] at hg hr fin
      refine fin _ _ hr hg ⟨_, _, rfl, fun _ => rfl⟩
    · by_cases hroom : n + m ≤ cap
      · have hfit : n * i.size + us.length ≤ (cs ++ ex).toArray.size := by rw [hul]; simp only [List.size_toArray, hex, ← Nat.add_mul]; exact Nat.mul_le_mul_right _ hroom
        have hr := run_append_room (P := X.P) w ty o.type e i ht hi b n cap (cs ++ ex).toArray hh ad m c us hul hcells h1 hroom hfit
        refine fin _ _ hr ?_ ⟨_, cap, rfl, fun _ => rfl⟩
        have e1 : List.take (n * i.size) (cs ++ ex).toArray.toList ++ us ++ List.drop (n * i.size + us.length) (cs ++ ex).toArray.toList = (cs ++ us) ++ ex.drop us.length := by
          simp only [← hc0, List.take_left, List.append_assoc, List.drop_append]
          simp
        rw [e1]
        have hl2 : ex.length = (cap - n) * i.size := by
          have := hex
          rw [List.length_append, hc0] at this
          rw [Nat.sub_mul]
          omega
        refine hw'.change rfl _ rfl rfl rfl rfl (by simp) (fun fp hp' => ?_)
        have hfp' : ∀ x, fp x ↔ x = b := by
          rcases hp'.2.2 with ⟨hv, _⟩ | ⟨b', cap', ex', hv, _, _, _, _, h6⟩
          · cases hv
          · injection hv with hv
            injection hv with hv
            injection hv with hv
            subst hv
            exact h6
        refine ⟨fun x hx => setRow_other w b x _ (fun e => hx ((hfp' x).2 e)), fp, fp, fun _ h => h, fun _ h => h, fun _ h => .inl h, ⟨hc0, fun x hx => ?_, .inr ⟨b, cap, us ++ ex.drop us.length, rfl, by rw [← List.append_assoc]; exact setRow_heap w b _ _ e _ hh, hnc, hcm, ?_, hfp'⟩⟩, ⟨hlen, fun x hx => ?_, .inr ⟨b, cap, ex.drop us.length, rfl, setRow_heap w b _ _ e _ hh, hroom, hcm, ?_, hfp'⟩⟩⟩
        · have := hp'.2.1 x hx; simpa using this
        · rw [← List.append_assoc, List.length_append, hlen, List.length_drop, hl2, hul, ← Nat.sub_mul, ← Nat.add_mul]
          congr 1
          omega
        · have := hp'.2.1 x hx; simpa using this
        · rw [List.length_append, hlen, List.length_drop, hl2, hul, ← Nat.sub_mul, ← Nat.add_mul]
          congr 1
          omega
      · have holds : ∀ j u, cs[j]? = some u → w.cell? ((⟨b, 0, none⟩ : Addr).add j) = some u := fun j u hu => by
          rw [Addr.add_mid, cell_of_row w b _ _ e _ hh]
          simp only [Nat.zero_add, List.getElem?_toArray]
          rw [List.getElem?_append_left (List.getElem?_eq_some_iff.1 hu).1]
          exact hu
        have hr := run_append_grow (P := X.P) w ty o.type e i z ht hi h3 ⟨b, 0, none⟩ n cap cs hc0 holds ad m c us hul hcells (by omega) (by omega) (growslice_fits (by omega) hb)
        exact fin _ _ hr (grown cap hw') ⟨_, _, rfl, fun _ => rfl⟩

theorem Step.append {d : Nat} {ty : TypeId} {x y : Operand} (e s by_ : Nat) (z : Value) (k0 k1 : Nat) (v : Value) (n : Nat) (cs : List Value) (A : Option Addr) (m c : Nat) (f : Fact) (us : List Value)
    (hty : look U.und ty = some (.slice e)) (hti : look U.ti e = some (s, by_, z)) (hzs : z.cells.size = s) (hs0 : 0 < s)
    (hx : ev t x = some v) (hy : ev t y = some (.slice A m c)) (hD : D[k0]? = some (row e s v n cs)) (hf : D[k1]? = some f) (hfu : ∀ w fp, f.P w fp → ∃ q : FP, (∀ b, q b → fp b) ∧ (vw A us).P w q)
    (hul : us.length = m * s) (h1 : ∀ u ∈ us, u.oneCell' = true) (h63 : n + m ≤ 140737488355328) (hb : (n + m) * by_ ≤ 140737488355328) (hd : Nat.ble (d + 1) X.N = true)
    (k : ∀ v', (∃ B cap, v' = .slice B (n + m) cap ∧ (0 < n + m → B.isSome = true)) → φ (put t d v') (row e s v' (n + m) (cs ++ us) :: D.eraseIdx k0)) : Step X (some d) (.call { callee := .builtin .append, args := #[x, y], argTypes := #[ty, ty] }) t D φ := by
  intro o hdst hop ρ a w ha hw Q K hK
  refine Step.append0 (φ := fun t' D' => ∃ v', t' = put t d v' ∧ D' = pair (row e s v n cs) (row e s v' (n + m) (cs ++ us)) :: D.eraseIdx k0 ∧ (∃ B cap, v' = .slice B (n + m) cap ∧ (0 < n + m → B.isSome = true))) hU e s by_ z k0 k1 v n cs A m c f us hty hti hzs hs0 hx hy hD hf hfu hul h1 h63 hb hd (fun v' hv' => ⟨v', rfl, rfl, hv'⟩) o hdst hop ρ a w ha hw Q K (fun t' D' a' w' h1 h2 h3 => ?_)
  obtain ⟨v', rfl, rfl, hv'⟩ := h3
  exact hK _ _ _ _ h1 (h2.pairR rfl) (k v' hv')
end
end Go.Proofs.Ytlibhidhfbecbaa.SL

/- Calls and contracts. -/
namespace Go.Proofs.Ytlibhidhfbecbaa.SL
set_option linter.unusedVariables false
set_option linter.unusedSimpArgs false
open Go Go.RowKit

def pulls : List Nat → List Fact → List Fact × List Fact
  | [], D => ([], D)
  | k :: ks, D => match D[k]? with
    | some f => (f :: (pulls ks (D.eraseIdx k)).1, (pulls ks (D.eraseIdx k)).2)
    | none => ([], D)

theorem pulls_perm : ∀ (ks : List Nat) (D : List Fact), D.Perm ((pulls ks D).1 ++ (pulls ks D).2)
  | [], D => List.Perm.refl _
  | k :: ks, D => by
    unfold pulls
    cases h : D[k]? with
    | none => exact List.Perm.refl _
    | some f => exact (perm_pull h).trans (List.Perm.cons f (pulls_perm ks _))

theorem SAT.left {w0 : World} {W : FP} {D E : List Fact} {w : World} (h : SAT w0 W (D ++ E) w) : SAT w0 W D w := by
  induction E with
  | nil => simpa using h
  | cons f E ih => exact ih (h.perm List.perm_middle).tail

theorem SAT.sel {w0 : World} {W : FP} {D : List Fact} {w : World} (h : SAT w0 W D w) (ks : List Nat) (D' : List Fact) (hD : (pulls ks D).1 = D') : SAT w0 W D' w := by
  subst hD
  exact (h.perm (pulls_perm ks D)).left

section
variable {X : Cx} {K : Post} {ops : Array Oper} {t : Env} {D : List Fact} {i : Nat}
theorem RunR.facts (ks : List Nat) (D' : List Fact) (h : (pulls ks D).1 ++ (pulls ks D).2 = D') (k : RunR X K ops i t D') : RunR X K ops i t D := by
  subst h
  exact fun ρ a w ha hw => k ρ a w ha (hw.perm (pulls_perm ks D))
theorem RunC.facts {c : Code} (ks : List Nat) (D' : List Fact) (h : (pulls ks D).1 ++ (pulls ks D).2 = D') (k : RunC X K c t D') : RunC X K c t D := by
  subst h
  exact fun ρ a w ha hw => k ρ a w ha (hw.perm (pulls_perm ks D))
theorem RunR.only (ks : List Nat) (D' : List Fact) (h : (pulls ks D).1 = D') (k : RunR X K ops i t D') : RunR X K ops i t D :=
  fun ρ a w ha hw => k ρ a w ha (hw.sel ks D' h)
theorem RunC.only {c : Code} (ks : List Nat) (D' : List Fact) (h : (pulls ks D).1 = D') (k : RunC X K c t D') : RunC X K c t D :=
  fun ρ a w ha hw => k ρ a w ha (hw.sel ks D' h)
theorem RunR.know {p : Prop} (hp : ∀ w0 W w, SAT w0 W D w → p) (k : p → RunR X K ops i t D) : RunR X K ops i t D := fun ρ a w ha hw => k (hp _ _ w hw) ρ a w ha hw
theorem RunC.know {c : Code} {p : Prop} (hp : ∀ w0 W w, SAT w0 W D w → p) (k : p → RunC X K c t D) : RunC X K c t D := fun ρ a w ha hw => k (hp _ _ w hw) ρ a w ha hw
theorem RunR.turn (D' : List Fact) (hD : ∀ w0 W w, SAT w0 W D w → SAT w0 W D' w) (k : RunR X K ops i t D') : RunR X K ops i t D := fun ρ a w ha hw => k ρ a w ha (hD _ _ w hw)
theorem RunC.turn {c : Code} (D' : List Fact) (hD : ∀ w0 W w, SAT w0 W D w → SAT w0 W D' w) (k : RunC X K c t D') : RunC X K c t D := fun ρ a w ha hw => k ρ a w ha (hD _ _ w hw)
end

def CallsS (P : Program) (f : FuncId) (args : List Value) (D : List Fact) (Φ : Value → List Fact → Prop) : Prop :=
  (∃ fn c, P.funcs[f]? = some fn ∧ fn.body = some c ∧ fn.name ≠ "runtime.NumGoroutine") ∧
  ∀ w W, SAT w W D w → Calls P f args.toArray w (fun e w' => ∃ r D', e = .returned r ∧ Φ r D' ∧ (∀ f ∈ D', f.own = true) ∧ SAT w W D' w')

theorem CallsS.mono {P : Program} {f : FuncId} {args : List Value} {D : List Fact} {Φ Ψ : Value → List Fact → Prop} (h : CallsS P f args D Φ) (hi : ∀ r D', Φ r D' → Ψ r D') : CallsS P f args D Ψ :=
  ⟨h.1, fun w W hw => (h.2 w W hw).mono fun _ _ ⟨r, D', h1, h2, h3⟩ => ⟨r, D', h1, hi _ _ h2, h3⟩⟩

def ResOK (U : Tab) (t : Env) (D : List Fact) : List ResultVar → List Value → Prop
  | [], [] => True
  | .tmp k :: rs, v :: vs => get t k = some v ∧ ResOK U t D rs vs
  | .cell p ty :: rs, v :: vs => (∃ (k0 b o : Nat) (T : TypeId) (cs : List Value), get t p = some (.pointer (some ⟨b, o, none⟩)) ∧ D[k0]? = some (blk b T cs) ∧ loadv U ty cs o = some v) ∧ ResOK U t D rs vs
  | _, _ => False

def retv : List Value → Value
  | [v] => v
  | vs => .tuple vs.toArray

def kret (U : Tab) (rs : List ResultVar) (Φ : Value → List Fact → Prop) : Post := fun e t D => match e with
  | .normal | .ret => ∃ vs D', ResOK U t D rs vs ∧ (∀ f ∈ D', f.own = true) ∧ (∀ w0 W w, SAT w0 W D w → SAT w0 W D' w) ∧ Φ (retv vs) D'
  | _ => False

section
variable {X : Cx} {K : Post} {t : Env} {D : List Fact} {c : Code}
theorem kseq_n (h : RunC X K c t D) : kseq X c K .normal t D := h
theorem kseq_r (h : K .ret t D) : kseq X c K .ret t D := h
theorem kseq_e {j : Nat} (h : K (.exit j) t D) : kseq X c K (.exit j) t D := h
theorem kblock_n {id : Nat} (h : K .normal t D) : kblock id K .normal t D := h
theorem kblock_r {id : Nat} (h : K .ret t D) : kblock id K .ret t D := h
theorem kblock_e {id : Nat} (h : K .normal t D) : kblock id K (.exit id) t D := by simp only [kblock, if_true]; exact h
theorem kloop_r {σ : Type} {I : σ → Env → List Fact → Prop} {m : σ → Nat} {s : σ} (h : K .ret t D) : kloop I m s K .ret t D := h
theorem kloop_e {σ : Type} {I : σ → Env → List Fact → Prop} {m : σ → Nat} {s : σ} {j : Nat} (h : K (.exit j) t D) : kloop I m s K (.exit j) t D := h
theorem kloop_n {σ : Type} {I : σ → Env → List Fact → Prop} {m : σ → Nat} {s : σ} (s' : σ) (keep ks : List Nat) (t' : Env) (D' : List Fact) (ht : pick t keep = t') (hD : (pulls ks D).1 = D') (hm : m s' < m s) (h : I s' t' D') : kloop I m s K .normal t D :=
  ⟨s', hm, t', D', fun p hp => by subst ht; exact pick_mem hp, fun _ _ _ hs => hs.sel ks D' hD, h⟩
theorem kret_r {U : Tab} {rs : List ResultVar} {Φ : Value → List Fact → Prop} (vs : List Value) (ks : List Nat) (D' : List Fact) (h : ResOK U t D rs vs) (hD : (pulls ks D).1 = D') (ho : D'.all (·.own) = true) (hΦ : Φ (retv vs) D') : kret U rs Φ .ret t D :=
  ⟨vs, D', h, fun f hf => List.all_eq_true.1 ho f hf, fun _ _ _ hs => hs.sel ks D' hD, hΦ⟩
theorem kret_n {U : Tab} {rs : List ResultVar} {Φ : Value → List Fact → Prop} (vs : List Value) (ks : List Nat) (D' : List Fact) (h : ResOK U t D rs vs) (hD : (pulls ks D).1 = D') (ho : D'.all (·.own) = true) (hΦ : Φ (retv vs) D') : kret U rs Φ .normal t D :=
  ⟨vs, D', h, fun f hf => List.all_eq_true.1 ho f hf, fun _ _ _ hs => hs.sel ks D' hD, hΦ⟩
end

def resOf (tmps : Array Value) : ResultVar → Sem Value
  | .tmp t => pure (tmps.getD t undef)
  | .cell a t => do loadVar t (← asAddr (tmps.getD a undef))

section
variable {X : Cx} {U : Tab} (hU : U.OK X.P) {N : Nat} {t : Env} {D : List Fact}
include hU
theorem run_results {tmps : Array Value} (ha : ∀ p ∈ t, tmps[p.1]? = some p.2) {w : World} (hw : ∀ b T cs, blk b T cs ∈ D → w.heap[b]? = some (.cells cs.toArray T (0, 0))) : ∀ {rs : List ResultVar} {vs : List Value}, ResOK U t D rs vs →
    (rs.mapM (resOf tmps)).run X.P w = .ok vs w
  | [], [], _ => by simp
  | .tmp k :: rs, v :: vs, h => by
    have ih := run_results ha hw h.2
    have hv : tmps.getD k undef = v := by rw [Array.getD_eq_getD_getElem?, ha _ (get_mem h.1)]; rfl
    rw [List.mapM_cons, Sem.run_bind]
    simp only [resOf, Sem.run_pure, Result.andThen_ok, Sem.run_bind, ih, hv]
  | .cell p ty :: rs, v :: vs, h => by
    have ih := run_results ha hw h.2
    obtain ⟨⟨k0, b, o, T, cs, h1, h2, h3⟩, _⟩ := h
    have hv : tmps.getD p undef = .pointer (some ⟨b, o, none⟩) := by rw [Array.getD_eq_getD_getElem?, ha _ (get_mem h1)]; rfl
    have hh := hw b T cs (List.mem_of_getElem? h2)
    have hl := run_loadv hU (X := X) h3 (a := ⟨b, o, none⟩) (w := w) (fun j u hu => by rw [Addr.add_mid, cell_of_row w b _ _ T _ hh]; simpa using hu)
    simp only [Instr.loadAt, Instr.sureAddr, Sem.run_bind, Sem.run_pure, Result.andThen_ok] at hl
    rw [List.mapM_cons, Sem.run_bind]
    simp only [resOf, hv, asAddr, Sem.run_bind, Sem.run_pure, Result.andThen_ok, hl, ih]
  | [], _ :: _, h => h.elim
  | .tmp _ :: _, [], h => h.elim
  | .cell _ _ :: _, [], h => h.elim

theorem run_resv {tmps : Array Value} (ha : ∀ p ∈ t, tmps[p.1]? = some p.2) {w : World} (hw : ∀ b T cs, blk b T cs ∈ D → w.heap[b]? = some (.cells cs.toArray T (0, 0))) {fn : Func} {rs : List ResultVar} (hrs : fn.results = rs.toArray) {vs : List Value} (h : ResOK U t D rs vs) : (results fn tmps).run X.P w = .ok (retv vs) w := by
  have he : results fn tmps = (do let vs ← fn.results.mapM (resOf tmps); pure (if h : vs.size = 1 then vs[0] else .tuple vs)) := rfl
  have hm := run_results hU ha hw h
  rw [he, Sem.run_bind, hrs, List.mapM_toArray, Sem.run_map, hm]
  simp only [Result.andThen_ok, Sem.run_pure]
  congr 1
  match vs with
  | [] => simp [retv]
  | [v] => simp [retv]
  | _ :: _ :: _ => simp [retv]
end

def shut (w : World) : List Nat → World
  | [] => w
  | b :: ds => shut (w.putObj b (.deferred none)) ds

theorem shut_same : ∀ {ds : List Nat} {w : World}, (shut w ds).os = w.os ∧ (shut w ds).tape = w.tape ∧ (shut w ds).output = w.output ∧ (shut w ds).heap.size = w.heap.size ∧ ∀ b, b ∉ ds → (shut w ds).heap[b]? = w.heap[b]?
  | [], w => ⟨rfl, rfl, rfl, rfl, fun _ _ => rfl⟩
  | d :: ds, w => by
    obtain ⟨h1, h2, h3, h4, h5⟩ := shut_same (ds := ds) (w := w.putObj d (.deferred none))
    refine ⟨h1, h2, h3, h4.trans (by simp), fun b hb => ?_⟩
    rw [List.mem_cons, not_or] at hb
    exact (h5 b hb.2).trans (World.putObj_heap_other hb.1)

theorem SAT.shut {ρ : Root} {D : List Fact} {w : World} (h : SAT ρ.w0 ρ.W D w) (ho : ∀ f ∈ D, f.own = true) (hok : ρ.OK) : SAT ρ.w0 ρ.WD D (SL.shut w ρ.ds) := by
  obtain ⟨fr, O, R, h1, h2, h3, h4⟩ := h
  obtain ⟨s1, s2, s3, s4, s5⟩ := shut_same (ds := ρ.ds) (w := w)
  have hO : ∀ b, O b → b ∉ ρ.ds := fun b hb hm => by
    obtain ⟨q1, q2, _⟩ := hok.at_ b hm
    rcases h3 b hb with h | h
    · omega
    · exact q2 h
  have this : ∀ (L : List Fact) (O' : FP), (∀ f ∈ L, f.own = true) → sat L w O' R → sat L w O' (fun _ => False) := by
    intro L
    induction L with
    | nil => exact fun _ _ _ => trivial
    | cons f L ih =>
      rintro O' hown ⟨fp, hp, h⟩
      have hf := hown f List.mem_cons_self
      rw [hf] at h
      refine ⟨fp, hp, ?_⟩
      rw [hf]
      exact ⟨h.1, ih _ (fun g hg => hown g (List.mem_cons_of_mem _ hg)) h.2⟩
  refine ⟨⟨s1.trans fr.os, s2.trans fr.tape, s3.trans fr.output, by rw [s4]; exact fr.size, fun b hb hW => ?_⟩, O, fun _ => False, ?_, fun _ _ h => h, fun b hb => (h3 b hb).imp id .inl, fun b hb => ?_⟩
  · have hW1 : ¬ ρ.W b := fun h => hW (.inl h)
    have hW2 : b ∉ ρ.ds := fun h => hW (.inr h)
    exact (s5 b hW2).trans (fr.block b hb hW1)
  · exact sat_loc (this D O ho h1) (fun b hb => s5 b (hO b (hb.resolve_right (fun h => h))))
  · rw [s4]
    exact h4 b (.inl (hb.resolve_right (fun h => h)))

theorem leaves_marks {P : Program} {fn : Func} {tmps : Array Value} {R : Ending → World → Prop} : ∀ (ds : List Nat) (w : World), ds.Nodup → (∀ b ∈ ds, w.heap[b]? = some (.deferred (some []))) →
    LeavesInM Fence.wide 0 P fn tmps R [] .returning (shut w ds) → LeavesInM Fence.wide 0 P fn tmps R (ds.map mark) .returning w
  | [], w, _, _, h => h
  | d :: ds, w, hn, hd, h => by
    refine ⟨by simp, .inl ⟨d, _, rfl, run_takeDeferred (hd d List.mem_cons_self), leaves_marks ds _ (List.nodup_cons.1 hn).2 (fun b hb => ?_) h⟩⟩
    have hne : b ≠ d := fun e => (List.nodup_cons.1 hn).1 (e ▸ hb)
    exact (World.putObj_heap_other hne).trans (hd b (List.mem_cons_of_mem _ hb))

def enumArgs : Nat → List Value → Env
  | _, [] => []
  | n, v :: vs => (n, v) :: enumArgs (n + 1) vs

theorem enumArgs_mem : ∀ {vs : List Value} {n : Nat} {p : Nat × Value}, p ∈ enumArgs n vs → n ≤ p.1 ∧ vs[p.1 - n]? = some p.2
  | v :: vs, n, p, h => by
    rcases List.mem_cons.1 h with rfl | h
    · simp
    · obtain ⟨h1, h2⟩ := enumArgs_mem h
      refine ⟨by omega, ?_⟩
      rw [show p.1 - n = (p.1 - (n + 1)) + 1 by omega]
      simpa using h2

theorem sat_blk {w0 : World} {W : FP} {D : List Fact} {w : World} (h : SAT w0 W D w) (b T : Nat) (cs : List Value) (hm : blk b T cs ∈ D) : w.heap[b]? = some (.cells cs.toArray T (0, 0)) := by
  obtain ⟨fp, hp, _⟩ := h.mem hm
  exact hp

theorem CallsS.enter {P : Program} {U : Tab} (hU : U.OK P) {f : FuncId} {args : List Value} {D : List Fact} {Φ : Value → List Fact → Prop} (fn : Func) (c : Code) (rs : List ResultVar) (N : Nat) (hf : P.funcs[f]? = some fn) (hb : fn.body = some c)
    (hname : fn.name ≠ "runtime.NumGoroutine") (hN : fn.ntmps = N) (hrs : fn.results = rs.toArray) (hna : Nat.ble args.length N = true)
    (h : ∀ (w0 : World) (W : FP), RunC ⟨P, N, none⟩ (kret U rs Φ) c (enumArgs 0 args) D) : CallsS P f args D Φ := by
  refine ⟨⟨fn, c, hf, hb, hname⟩, fun w W hw => callsIn_wide.1 (callsIn_of_wp_marks (F := Fence.wide) (n := 0) hf hb trivial (wpIn_mono (h w W ⟨w, W, []⟩ _ w ?_ hw) ?_))⟩
  · have hle := Nat.le_of_ble_eq_true hna
    refine ⟨⟨List.nodup_nil, fun b hb => by cases hb⟩, rfl, by simp; omega, fun p hp => ?_⟩
    obtain ⟨_, h2⟩ := enumArgs_mem hp
    simp only [Nat.sub_zero] at h2
    have hlt : p.1 < args.length := (List.getElem?_eq_some_iff.1 h2).1
    rw [Array.getElem?_append_left (by simpa using hlt)]
    simpa using h2
  · have key : ∀ ρ t D a w', Ext ⟨w, W, []⟩ ρ → EnvOK N ρ t a → SAT ρ.w0 ρ.W D w' → (∃ vs D', ResOK U t D rs vs ∧ (∀ f ∈ D', f.own = true) ∧ (∀ w0 W w, SAT w0 W D w → SAT w0 W D' w) ∧ Φ (retv vs) D') →
        LeavesInM Fence.wide 0 P fn a.tmps (fun e w' => ∃ r D', e = .returned r ∧ Φ r D' ∧ (∀ f ∈ D', f.own = true) ∧ SAT w W D' w') a.defers .returning w' := by
      rintro ρ t D a w' hx ha hs ⟨vs, D', h1, h2, h3, h4⟩
      obtain ⟨fr, O, R, g1, g2, g3, g4⟩ := id hs
      have hD' := (h3 _ _ _ hs).shut h2 ha.ok
      have hfin := hx D' _ hD'
      have hfin2 : SAT w W D' (shut w' ρ.ds) := by
        obtain ⟨f1, O1, R1, q1, q2, q3, q4⟩ := hfin
        have e : ∀ b, ¬ W b → ¬ (W b ∨ b ∈ ([] : List Nat)) := fun b hb h => h.elim hb (fun h => by cases h)
        exact ⟨⟨f1.os, f1.tape, f1.output, f1.size, fun b hb hW => f1.block b hb (e b hW)⟩, O1, R1, q1, q2, fun b hb => (q3 b hb).imp id (fun h => h.elim id (fun h => by cases h)), q4⟩
      rw [ha.defers]
      refine leaves_marks ρ.ds w' ha.ok.nd (fun b hb => ?_) ?_
      · obtain ⟨p1, p2, p3⟩ := ha.ok.at_ b hb
        exact (fr.block b p1 p2).trans p3
      · have hnot : ∀ b T cs, blk b T cs ∈ D → b ∉ ρ.ds := fun b T cs hm hb => by
          have q1 := sat_blk hs b T cs hm
          obtain ⟨p1, p2, p3⟩ := ha.ok.at_ b hb
          have q2 := (fr.block b p1 p2).trans p3
          rw [q1] at q2
          cases q2
        have hr := run_resv (X := ⟨P, N, none⟩) hU ha.at_ (w := shut w' ρ.ds) (fun b T cs hm => (shut_same.2.2.2.2 b (hnot b T cs hm)).trans (sat_blk hs b T cs hm)) hrs h1
        exact ⟨_, hr, _, D', rfl, h4, h2, hfin2⟩
    rintro e a w' ⟨ρ, t, D, hx, ha, hs, hk⟩
    cases e with
    | normal => exact key ρ t D a w' hx ha hs hk
    | ret => exact key ρ t D a w' hx ha hs hk
    | _ => exact hk.elim

section
variable {X : Cx} {t : Env} {D : List Fact} {φ : Env → List Fact → Prop}

def putO (t : Env) (d : Option Nat) (v : Value) : Env := match d with | some d => put t d v | none => t

theorem EnvOK.putO {N : Nat} {ρ : Root} {t : Env} {a : Act} (h : EnvOK N ρ t a) {d : Option Nat} (hd : (d.map fun d => Nat.ble (d + 1) N).getD true = true) (v : Value) : EnvOK N ρ (putO t d v) (a.put d v) := by
  cases d with
  | none => exact ⟨h.ok, h.defers, h.size, h.at_⟩
  | some d => exact h.put (Nat.le_of_ble_eq_true hd) v

def callee (t : Env) (c : Operand) (args : List Operand) : Option (FuncId × List Value) :=
  match ev t c, args.mapM (ev t) with
  | some (.func (.func f) first captured), some vs => some (f, first.toList ++ vs ++ captured.toList)
  | _, _ => none

theorem Step.call {d : Option Nat} {c : Operand} {as : Array Operand} {ts : Array TypeId} (f : FuncId) (vs : List Value) (hc : callee t c as.toList = some (f, vs)) (hd : (d.map fun d => Nat.ble (d + 1) X.N).getD true = true)
    (C V E : List Fact) {Φ : Value → List Fact → Prop} (hcall : CallsS X.P f vs (C ++ V) Φ) (ks : List Nat) (hD : pulls ks D = (C, E)) (hV : Lend E V) (k : ∀ r D', Φ r D' → φ (putO t d r) (D' ++ E)) :
    Step X d (.call { callee := .value c, args := as, argTypes := ts }) t D φ := by
  intro o hdst hop ρ a w ha hw Q K hK
  unfold callee at hc
  split at hc
  · rename_i f' first captured us h1 h2
    simp only [Option.some.injEq, Prod.mk.injEq] at hc
    obtain ⟨rfl, rfl⟩ := hc
    obtain ⟨⟨fn, cb, hf, hb, hname⟩, hcall⟩ := hcall
    have hp := pulls_perm ks D
    rw [hD] at hp
    obtain ⟨O1, hpre, hpost⟩ := hw.call hp hV
    have hargs : as.map a.eval = us.toArray := by
      rw [← Array.toList_inj, Array.toList_map]
      exact eval_map ha h2
    have hr : (execOp a.eval o).run X.P w = .ok (.enter f' (first.toList ++ us ++ captured.toList).toArray) w := by
      unfold execOp
      have he : first ++ us.toArray ++ captured = (first.toList ++ us ++ captured.toList).toArray := by rw [← Array.toList_inj]; simp
      simp [hop, resolve, ha.ev h1, Deferred.ofValue, invoke, hargs, callFunc, hf, hb, hname, he]
    have hq : ∀ (e : Ending) w', (∃ r D', e = .returned r ∧ Φ r D' ∧ (∀ f ∈ D', f.own = true) ∧ SAT w O1 D' w') → ∃ r, e = .returned r ∧ K (a.put o.dst r) w' := by
      rintro e w' ⟨r, D', rfl, hΦ, hown, hs⟩
      refine ⟨r, rfl, hK _ _ _ _ ?_ (hpost D' w' hown hs) (k r D' hΦ)⟩
      rw [hdst]
      exact ha.putO hd r
    refine ⟨⟨about_any, ?_⟩, ?_⟩
    · rw [sem_of_run hr (fun _ h => by cases h), Oper.uponIn_enter]
      refine ⟨fun h => by simp [Cx.F, Fence.wide] at h, (callsIn_wide (n := 0 - 1)).2 ((hcall w O1 hpre).mono ?_)⟩
      intro e w' he
      obtain ⟨r, rfl, hk⟩ := hq e w' he
      exact hk
    · unfold Oper.wp
      rw [hr, Oper.upon_enter]
      refine (hcall w O1 hpre).mono ?_
      intro e w' he
      obtain ⟨r, rfl, hk⟩ := hq e w' he
      exact hk
  · cases hc
end
end Go.Proofs.Ytlibhidhfbecbaa.SL

/- Plain words for rows of numbers. -/
namespace Go.Proofs.Ytlibhidhfbecbaa.SL
set_option linter.unusedVariables false
set_option linter.unusedSimpArgs false
open Go

def nums (k : IntKind) (xs : List Int) : List Value := xs.map (Value.int k)
theorem nums_length (k : IntKind) (xs : List Int) : (nums k xs).length = xs.length := by simp [nums]
theorem nums_get (k : IntKind) (xs : List Int) (i : Nat) (h : i < xs.length) : (nums k xs)[i]? = some (.int k (xs.getD i 0)) := by
  simp [nums, List.getElem?_eq_getElem h, List.getD_eq_getElem?_getD]
theorem nums_one (k : IntKind) (xs : List Int) : ∀ u ∈ nums k xs, u.oneCell' = true := by
  intro u hu
  obtain ⟨x, _, rfl⟩ := List.mem_map.1 hu
  rfl
theorem nums_append (k : IntKind) (xs ys : List Int) : nums k (xs ++ ys) = nums k xs ++ nums k ys := by simp [nums]
theorem nums_wr (k : IntKind) (xs : List Int) (i : Nat) (v : Int) (h : i < xs.length) : wr (nums k xs) i [.int k v] = nums k (xs.set i v) := by
  unfold wr nums
  rw [List.map_set, List.set_eq_take_append_cons_drop, if_pos (by simpa using h)]
  simp

def In (k : IntKind) (xs : List Int) : Prop := ∀ x ∈ xs, fits k x
theorem fits_zero (k : IntKind) : fits k 0 := by cases k <;> simp [fits]
theorem In.at_ {k : IntKind} {xs : List Int} (h : In k xs) (i : Nat) : fits k (xs.getD i 0) := by
  rcases Nat.lt_or_ge i xs.length with hi | hi
  · rw [List.getD_eq_getElem?_getD, List.getElem?_eq_getElem hi]
    exact h _ (List.getElem_mem hi)
  · rw [List.getD_eq_getElem?_getD, List.getElem?_eq_none hi]
    exact fits_zero k
theorem In.nil (k : IntKind) : In k [] := fun _ h => by cases h
theorem In.append {k : IntKind} {xs ys : List Int} (h : In k xs) (h' : In k ys) : In k (xs ++ ys) := fun x hx => (List.mem_append.1 hx).elim (h x) (h' x)
theorem In.cons {k : IntKind} {x : Int} {xs : List Int} (h : fits k x) (h' : In k xs) : In k (x :: xs) := fun y hy => by
  rcases List.mem_cons.1 hy with rfl | hy
  · exact h
  · exact h' y hy
theorem In.take {k : IntKind} {xs : List Int} (h : In k xs) (n : Nat) : In k (xs.take n) := fun x hx => h x (List.mem_of_mem_take hx)
theorem In.drop {k : IntKind} {xs : List Int} (h : In k xs) (n : Nat) : In k (xs.drop n) := fun x hx => h x (List.mem_of_mem_drop hx)
theorem In.set {k : IntKind} {xs : List Int} (h : In k xs) (i : Nat) {v : Int} (hv : fits k v) : In k (xs.set i v) := fun x hx => by
  rcases List.mem_or_eq_of_mem_set hx with hx | rfl
  · exact h x hx
  · exact hv
theorem In.replicate (k : IntKind) (n : Nat) : In k (List.replicate n 0) := fun x hx => by rw [List.eq_of_mem_replicate hx]; exact fits_zero k
theorem In.sb (s : ByteArray) : In .u8 (sb s) := fun x hx => by
  obtain ⟨b, _, rfl⟩ := List.mem_map.1 hx
  have := b.toNat_lt
  simp only [fits]
  omega
theorem getD_ge (xs : List Int) (i : Nat) (h : xs.length ≤ i) : xs.getD i 0 = 0 := by rw [List.getD_eq_getElem?_getD, List.getElem?_eq_none h]; rfl
theorem wrap_u64 (x : Int) (h0 : 0 ≤ x) (h1 : x < 18446744073709551616) : IntKind.u64.wrap x = x := by simp [IntKind.wrap, IntKind.bits, IntKind.signed]; omega
theorem wrap_u32 (x : Int) (h0 : 0 ≤ x) (h1 : x < 4294967296) : IntKind.u32.wrap x = x := by simp [IntKind.wrap, IntKind.bits, IntKind.signed]; omega
theorem wrap_i64 (x : Int) (h0 : -9223372036854775808 ≤ x) (h1 : x < 9223372036854775808) : IntKind.i64.wrap x = x := by
  simp [IntKind.wrap, IntKind.bits, IntKind.signed]
  omega
end Go.Proofs.Ytlibhidhfbecbaa.SL

/- A region whose order is drawn: values that no order can change are taken first; what writes comes when it alone is ready. Behind the operations of ds nothing is kept: each of them waits for all that is taken.
   (After the kit's own theorem on orders under a predicate, with a list of last operations.) -/
namespace Go.Proofs.Ytlibhidhfbecbaa.SL
set_option linter.unusedVariables false
set_option linter.unusedSimpArgs false
open Go

section
variable {P : Program} {ops : Array Oper} {Q : Exit → Act → World → Prop} {S : World → Prop} {ds : List Nat}

def waitsOn (ops : Array Oper) (i d : Nat) : Bool := match ops[d]? with
  | some o => o.after.any fun e => Region.binds .any e && e.on == i
  | none => false

def waitsVia (ops : Array Oper) (listed : Array Bool) (i : Nat) : Nat → Nat → Bool
  | 0, d => waitsOn ops i d
  | n + 1, d => waitsOn ops i d || (List.range ops.size).any fun j => waitsOn ops j d && (!listed.getD j true && waitsVia ops listed i n j)

def lastOK (ops : Array Oper) (listed : Array Bool) (ds : List Nat) (i : Nat) : Bool := ds.all fun d => listed.getD d true || waitsVia ops listed i 5 d

def wpU (P : Program) (ops : Array Oper) (Q : Exit → Act → World → Prop) (S : World → Prop) (ds : List Nat) : Nat → Array Bool → Act → World → Prop
  | 0, listed, a, w => Region.ready .any ops listed = [] ∧ Q .normal a w
  | fuel + 1, listed, a, w =>
    (Region.ready .any ops listed = [] → Q .normal a w) ∧
    ∀ i ∈ Region.ready .any ops listed, wpOp P ops Q i (fun a' w' => (i ∉ ds → S w → S w') ∧ wpU P ops Q S ds fuel (listed.setIfInBounds i true) a' w') a w

theorem wpAny_of_wpU : ∀ (fuel : Nat) (listed : Array Bool) (a : Act) (w : World), wpU P ops Q S ds fuel listed a w → wpAny P .any ops Q fuel listed a w
  | 0, _, _, _, h => h
  | fuel + 1, _, _, _, h => ⟨h.1, fun i hi => wpOp_mono (fun a' w' h' => wpAny_of_wpU fuel _ a' w' h'.2) (h.2 i hi)⟩

theorem not_ready_waits {listed : Array Bool} {i d : Nat} (hw : waitsOn ops i d = true) (hun : listed.getD i true = false) : d ∉ Region.ready .any ops listed := by
  intro hd
  obtain ⟨_, o, ho, hall⟩ := mem_ready.1 hd
  unfold waitsOn at hw
  rw [ho] at hw
  obtain ⟨e, he, h1⟩ := Array.any_eq_true'.1 hw
  simp only [Bool.and_eq_true, beq_iff_eq] at h1
  have := hall e he h1.1
  rw [h1.2] at this
  rcases Nat.lt_or_ge i listed.size with h' | h'
  · simp [h'] at hun this; rw [hun] at this; cases this
  · simp [Array.getElem?_eq_none h'] at this

theorem via_not_ready {listed : Array Bool} {i : Nat} (hun : listed.getD i true = false) : ∀ (n d : Nat), waitsVia ops listed i n d = true → d ∉ Region.ready .any ops listed
  | 0, d, h => not_ready_waits h hun
  | n + 1, d, h => by
    unfold waitsVia at h
    rcases Bool.or_eq_true .. ▸ h with h | h
    · exact not_ready_waits h hun
    · obtain ⟨j, _, hj⟩ := List.any_eq_true.1 h
      simp only [Bool.and_eq_true, Bool.not_eq_true'] at hj
      exact not_ready_waits hj.1 hj.2.1
theorem via_mono {listed : Array Bool} {i j0 : Nat} (hun : listed.getD i true = false) (hj0 : j0 ∈ Region.ready .any ops listed) : ∀ (n d : Nat), waitsVia ops listed i n d = true → waitsVia ops (listed.setIfInBounds j0 true) i n d = true
  | 0, d, h => h
  | n + 1, d, h => by
    unfold waitsVia at h ⊢
    rcases Bool.or_eq_true .. ▸ h with h | h
    · rw [h]; rfl
    · obtain ⟨j, hr, hj⟩ := List.any_eq_true.1 h
      simp only [Bool.and_eq_true, Bool.not_eq_true'] at hj
      rw [Bool.or_eq_true]
      refine .inr (List.any_eq_true.2 ⟨j, hr, ?_⟩)
      simp only [Bool.and_eq_true, Bool.not_eq_true']
      refine ⟨hj.1, ?_, via_mono hun hj0 n j hj.2.2⟩
      have hne : j0 ≠ j := fun e => via_not_ready hun n j hj.2.2 (e ▸ hj0)
      rw [getD_set_ne true hne]
      exact hj.2.1

theorem wpU_first {i : Nat} {oi : Oper} {v : Value} (any : Bool) (hi : ops[i]? = some oi) (hsel : ∀ (j : Nat) (o : Oper) cs b, ops[j]? = some o → o.op ≠ .select cs b)
    (hQ : ∀ c a w, Q (.panic c) (a.put oi.dst v) w → Q (.panic c) a w) :
    ∀ (fuel : Nat) (listed : Array Bool) (a : Act) (w : World),
      (∀ j oj, ops[j]? = some oj → j ≠ i → listed.getD j true = false → (∀ e ∈ oj.after, Region.binds .any e = true → e.on ≠ i) → oi.apart ops oj = true) →
      (any = false → ∀ d ∈ ds, listed.getD d true = false → waitsVia ops listed i 5 d = true) →
      i ∈ Region.ready .any ops listed → YieldsIf P ops (fun w => any = true ∨ S w) oi v a → (any = false → S w) →
      wpU P ops Q S ds fuel (listed.setIfInBounds i true) (a.put oi.dst v) w → wpU P ops Q S ds (fuel + 1) listed a w := by
  intro fuel
  have hS0 : ∀ w, (any = false → S w) → any = true ∨ S w := fun w h => by cases hb : any with | true => exact .inl rfl | false => exact .inr (h hb)
  induction fuel with
  | zero =>
    intro listed a w _ _ hr hy hS H
    refine ⟨fun h => (by rw [h] at hr; cases hr), fun j hj => ?_⟩
    by_cases hji : j = i
    · subst hji; exact hy.wpOp hi (hS0 w hS) ⟨fun _ h => h, H⟩
    · have := ready_mono hj hji
      rw [H.1] at this
      cases this
  | succ fuel ih =>
    intro listed a w hfree hd hr hy hS H
    refine ⟨fun h => (by rw [h] at hr; cases hr), fun j hj => ?_⟩
    by_cases hji : j = i
    · subst hji; exact hy.wpOp hi (hS0 w hS) ⟨fun _ h => h, H⟩
    · have h1 := H.2 j (ready_mono hj hji)
      obtain ⟨hjun, oj, hoj, hall⟩ := mem_ready.1 hj
      have hiun := (mem_ready.1 hr).1
      have hnot : ∀ e ∈ oj.after, Region.binds .any e = true → e.on ≠ i := fun e he hb heq => by
        have h1 := hall e he hb
        rw [heq] at h1
        rcases Nat.lt_or_ge i listed.size with h' | h'
        · simp [h'] at hiun h1; rw [hiun] at h1; cases h1
        · simp [Array.getElem?_eq_none h'] at h1
      have h2 := wpOp_putIf hoj (hfree j oj hoj hji hjun hnot) (fun cs b => hsel i oi cs b hi) (fun cs b => hsel j oj cs b hoj) hQ hy h1
      have hfree' : ∀ k ok, ops[k]? = some ok → k ≠ i → (listed.setIfInBounds j true).getD k true = false →
          (∀ e ∈ ok.after, Region.binds .any e = true → e.on ≠ i) → oi.apart ops ok = true := fun k ok hk hki hun hno => by
        refine hfree k ok hk hki ?_ hno
        by_cases hjk : j = k
        · subst hjk; exact hjun
        · rw [getD_set_ne true hjk] at hun; exact hun
      have hd' : any = false → ∀ d ∈ ds, (listed.setIfInBounds j true).getD d true = false → waitsVia ops (listed.setIfInBounds j true) i 5 d = true := fun ha d hm hun => by
        refine via_mono hiun hj 5 d (hd ha d hm ?_)
        by_cases hjk : j = d
        · subst hjk; exact hjun
        · rw [getD_set_ne true hjk] at hun; exact hun
      refine wpOp_mono (fun a' w' h3 => ⟨h3.2.1, ih (listed.setIfInBounds j true) a' w' hfree' hd' (ready_mono hr (Ne.symm hji)) h3.1 (fun ha => h3.2.1 (fun hm => via_not_ready hiun 5 j (hd ha j hm hjun) hj) (hS ha)) ?_⟩) h2
      rw [Array.setIfInBounds_comm _ _ hji]
      exact h3.2.2
end

def bm (n m : Nat) : Array Bool := ((List.range n).map fun i => m.testBit i).toArray

def RunU (X : Cx) (K : Post) (ops : Array Oper) (Θ : List Fact) (ds : List Nat) (fuel : Nat) (l : Array Bool) (t : Env) (D : List Fact) : Prop :=
  ∀ ρ a w, EnvOK X.N ρ t a → SAT ρ.w0 ρ.W D w → wpU X.P ops (den X ρ K) (fun w => ∀ f ∈ Θ, ∃ fp, f.P w fp) ds fuel l a w

def atAll (D : List Fact) : List Nat → Option (List Fact)
  | [] => some []
  | k :: ks => match D[k]?, atAll D ks with
    | some f, some fs => some (f :: fs)
    | _, _ => none

theorem atAll_sat {w0 : World} {W : FP} {D : List Fact} {w : World} (h : SAT w0 W D w) : ∀ {ks : List Nat} {Θ : List Fact}, atAll D ks = some Θ → ∀ f ∈ Θ, ∃ fp, f.P w fp
  | [], Θ, hk, f, hf => by cases hk; cases hf
  | k :: ks, Θ, hk, f, hf => by
    unfold atAll at hk
    split at hk
    · rename_i g fs hg hfs
      cases hk
      rcases List.mem_cons.1 hf with rfl | hf
      · exact h.get k hg
      · exact atAll_sat h hfs f hf
    · cases hk

section
variable {X : Cx} {K : Post} {ops : Array Oper} {Θ : List Fact} {ds : List Nat} {U : Tab} (hU : U.OK X.P) {t : Env} {D : List Fact} {fuel : Nat} {l : Array Bool}
include hU

theorem RunC.regionU {id : Nat} (n : Nat) (Θ : List Fact) (ks : List Nat) (ds : List Nat) (l : Array Bool) (hn : Nat.beq ops.size n = true) (hl : Array.replicate n false = l) (hks : atAll D ks = some Θ) (h : RunU X K ops Θ ds n l t D) (hr : X.r = none := by rfl) : RunC X K (.region id ops true) t D := by
  intro ρ a w ha hw
  obtain rfl := Nat.eq_of_beq_eq_true hn
  subst hl
  have hF : X.F = Fence.wide := by unfold Cx.F; rw [hr]; rfl
  rw [hF]
  exact wpIn_wide.2 (wp_region_any hU.mixed (wpAny_of_wpU _ _ _ _ (h ρ a w.drew ha hw.drew)))

def takeOK (ops : Array Oper) (l l' : Array Bool) (i : Nat) : Bool := Region.noSelect ops && Region.free .any ops l i && (Region.ready .any ops l).contains i && (l.setIfInBounds i true == l')

def silu (U : Tab) (nw : Bool) (ops : Array Oper) (i : Nat) (t : Env) : Option (Nat × Value × Prop) :=
  match ops[i]? with
  | none => none
  | some o => match gd ops o t, o.dst with
    | some true, some d => match (match nw with | true => silw U o.op t | false => sil1 U o.op t) with
      | some (v, C) => some (d, v, C)
      | none => none
    | some false, some d => some (d, undef, True)
    | _, _ => none

theorem RunU.sil (nw : Bool) (i : Nat) (l' : Array Bool) (d : Nat) (v : Value) (C : Prop) (h : silu U nw ops i t = some (d, v, C)) (hC : C) (hc : takeOK ops l l' i = true) (hd : Nat.ble (d + 1) X.N = true)
    (hQ : ∀ c t D, K (.panic c) t D → False) (k : RunU X K ops Θ ds fuel l' (put t d v) D) : RunU X K ops Θ ds (fuel + 1) l t D := by
  simp only [takeOK, Bool.and_eq_true, beq_iff_eq] at hc
  obtain ⟨⟨⟨h1, h2⟩, h3⟩, h4⟩ := hc
  subst h4
  intro ρ a w ha hw
  unfold silu at h
  split at h
  · cases h
  · rename_i o ho
    have key : ∀ (v : Value), o.dst = some d → YieldsIf X.P ops (fun w => true = true ∨ ∀ f ∈ Θ, ∃ fp, f.P w fp) o v a → RunU X K ops Θ ds fuel (l.setIfInBounds i true) (put t d v) D → wpU X.P ops (den X ρ K) (fun w => ∀ f ∈ Θ, ∃ fp, f.P w fp) ds (fuel + 1) l a w := by
      intro v hdst hy k
      refine wpU_first true ho (Region.noSelect_spec h1) (fun c a w hq => ?_) fuel l a w (Region.free_spec ho h2) (fun h => by cases h) (by simpa using h3) hy (fun h => by cases h) ?_
      · obtain ⟨_, _, _, _, _, _, hk⟩ := hq; exact (hQ _ _ _ hk).elim
      · rw [hdst]; exact k ρ _ w (ha.put (Nat.le_of_ble_eq_true hd) v) hw
    split at h
    · rename_i d' hg hdst
      cases hs : (match nw with | true => silw U o.op t | false => sil1 U o.op t) with
      | none => rw [hs] at h; cases h
      | some p =>
        obtain ⟨v', C'⟩ := p
        rw [hs] at h
        simp only [Option.some.injEq, Prod.mk.injEq] at h
        obtain ⟨rfl, rfl, rfl⟩ := h
        have hs1 : ∃ C', C' ∧ sil1 U o.op t = some (v', C') := by
          cases nw with
          | true => exact silw_sil1 hs hC
          | false => exact ⟨_, hC, hs⟩
        obtain ⟨C2, hC2, hs2⟩ := hs1
        exact key v' hdst (.inl ⟨gd_sound ha hg, fun w _ => sil1_sound hU ha w hs2 hC2⟩) k
    · rename_i d' hg hdst
      simp only [Option.some.injEq, Prod.mk.injEq] at h
      obtain ⟨rfl, rfl, rfl⟩ := h
      exact key undef hdst (.inr ⟨gd_sound ha hg, rfl⟩) k
    · cases h

def Reads (X : Cx) (Θ : List Fact) (dst : Option Tmp) (op : Op) (t : Env) (v : Value) : Prop :=
  ∀ o : Oper, o.dst = dst → o.op = op → ∀ ρ a w, EnvOK X.N ρ t a → (∀ f ∈ Θ, ∃ fp, f.P w fp) → (execOp a.eval o).run X.P w = .ok (.value v) w

omit hU in
theorem RunU.read (i : Nat) (l' : Array Bool) (d : Nat) (op : Op) (v : Value) (ks : List Nat) (h : opInfo ops i t = some (some d, op)) (hr : Reads X Θ (some d) op t v) (hks : atAll D ks = some Θ) (hc : takeOK ops l l' i = true) (hds : lastOK ops l ds i = true) (hd : Nat.ble (d + 1) X.N = true)
    (hQ : ∀ c t D, K (.panic c) t D → False) (k : RunU X K ops Θ ds fuel l' (put t d v) D) : RunU X K ops Θ ds (fuel + 1) l t D := by
  simp only [takeOK, Bool.and_eq_true, beq_iff_eq] at hc
  obtain ⟨⟨⟨h1, h2⟩, h3⟩, h4⟩ := hc
  subst h4
  obtain ⟨o, ho, hg, hdst, hop⟩ := opInfo_spec h
  intro ρ a w ha hw
  refine wpU_first false ho (Region.noSelect_spec h1) (fun c a w hq => ?_) fuel l a w (Region.free_spec ho h2) (fun _ d hm hun => ?_) (by simpa using h3) (.inl ⟨gd_sound ha hg, fun w hS => hr o hdst hop ρ a w ha (hS.resolve_left (by simp))⟩) (fun _ => atAll_sat hw hks) ?_
  · obtain ⟨_, _, _, _, _, _, hk⟩ := hq; exact (hQ _ _ _ hk).elim
  · have := List.all_eq_true.1 hds d hm
    rw [hun] at this
    simpa using this
  · rw [hdst]; exact k ρ _ w (ha.put (Nat.le_of_ble_eq_true hd) v) hw

def oneOK (ops : Array Oper) (l l' : Array Bool) (i : Nat) : Bool := (Region.ready .any ops l == [i]) && (l.setIfInBounds i true == l')

omit hU in
theorem RunU.one (i : Nat) (l' : Array Bool) {dst : Option Tmp} {op : Op} (ks : List Nat) (h : opInfo ops i t = some (dst, op)) (hc : oneOK ops l l' i = true)
    (hs : Step X dst op t D (fun t' D' => (atAll D' ks = some Θ ∨ onList ds i = true) ∧ RunU X K ops Θ ds fuel l' t' D')) : RunU X K ops Θ ds (fuel + 1) l t D := by
  simp only [oneOK, Bool.and_eq_true, beq_iff_eq] at hc
  obtain ⟨h1, h2⟩ := hc
  subst h2
  obtain ⟨o, ho, hg, hdst, hop⟩ := opInfo_spec h
  intro ρ a w ha hw
  refine ⟨fun h0 => (by rw [h1] at h0; cases h0), fun j hj => ?_⟩
  rw [h1, List.mem_singleton] at hj
  subst hj
  unfold wpOp
  simp only [ho, gd_sound ha hg, if_true]
  refine .inl (hs o hdst hop ρ a w ha hw _ _ (fun t' D' a' w' h3 h4 h5 => ⟨fun hn _ => ?_, h5.2 ρ a' w' h3 h4⟩)).2
  rcases h5.1 with h6 | h6
  · exact atAll_sat h4 h6
  · exact absurd (by
      clear hs h5 hn
      revert h6
      generalize ds = L
      induction L with
      | nil => intro h; cases h
      | cons k L ih =>
        intro h
        unfold onList at h
        cases hb : Nat.beq k j with
        | true => rw [Nat.eq_of_beq_eq_true hb]; exact List.mem_cons_self
        | false => rw [hb] at h; exact List.mem_cons_of_mem _ (ih h)) hn

omit hU in
theorem RunU.done (h : (Region.ready .any ops l == []) = true) (k : K .normal t D) : RunU X K ops Θ ds fuel l t D := by
  intro ρ a w ha hw
  have h : Region.ready .any ops l = [] := by simpa using h
  cases fuel with
  | zero => exact ⟨h, ρ, t, D, .refl ρ, ha, hw, k⟩
  | succ n => exact ⟨fun _ => ⟨ρ, t, D, .refl ρ, ha, hw, k⟩, by rw [h]; simp⟩

omit hU in
theorem RunU.enveq (t' : Env) (h : t = t') (k : RunU X K ops Θ ds fuel l t' D) : RunU X K ops Θ ds fuel l t D := by subst h; exact k
omit hU in
theorem RunU.env (keep : List Nat) (t' : Env) (h : pick t keep = t') (k : RunU X K ops Θ ds fuel l t' D) : RunU X K ops Θ ds fuel l t D := by
  subst h
  exact fun ρ a w ha hw => k ρ a w (ha.sub (fun p hp => pick_mem hp)) hw
omit hU in
theorem RunU.turn (D' : List Fact) (hD : ∀ w0 W w, SAT w0 W D w → SAT w0 W D' w) (k : RunU X K ops Θ ds fuel l t D') : RunU X K ops Θ ds fuel l t D := fun ρ a w ha hw => k ρ a w ha (hD _ _ w hw)
omit hU in
theorem RunU.know {p : Prop} (hp : ∀ w0 W w, SAT w0 W D w → p) (k : p → RunU X K ops Θ ds fuel l t D) : RunU X K ops Θ ds fuel l t D := fun ρ a w ha hw => k (hp _ _ w hw) ρ a w ha hw
end
end Go.Proofs.Ytlibhidhfbecbaa.SL
