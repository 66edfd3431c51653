/- Rows of numbers: made, grown, read, written; copies. -/
import Derived.Test.YtjhinpmnpdgadaaDoorSLh
import Derived.Test.YtjhinpmnpdgadaaDoorSLr
import Derived.LoopN
import Derived.Laws.BytesArg
import Derived.Lib.ConvBytes
namespace Go.Proofs.YtjhinpmnpdgadaaDoor.SL
set_option linter.unusedVariables false
set_option linter.unusedSimpArgs false
open Go

/-- f tells (perhaps among more) that these cells can be read from A on. -/
def Tells (f : Fact) (A : Option Addr) (us : List Value) : Prop := ∀ w fp, f.P w fp → ∃ q : FP, (∀ b, q b → fp b) ∧ (vw A us).P w q

theorem tells_vw (A : Option Addr) (us : List Value) : Tells (vw A us) A us := fun _ fp h => ⟨fp, fun _ hb => hb, h⟩
theorem tells_row (T s n cap : Nat) (A : Option Addr) (cs : List Value) : Tells (row T s (.slice A n cap) n cs) A cs := fun w fp h => vw_of_row w fp h
theorem tells_part {f : Fact} {A : Option Addr} {cs : List Value} (h : Tells f A cs) (l m s : Nat) (us : List Value) (hu : us = (cs.drop (l * s)).take us.length) (hm : us ≠ [] → m ≠ l) : Tells f (subBase A l m s) us := fun w fp hp => by
  obtain ⟨q, h1, h2⟩ := h w fp hp
  obtain ⟨q', h3, h4⟩ := vw_part l m s us hu hm w q h2
  exact ⟨q', fun b hb => h1 b (h3 b hb), h4⟩
theorem Lend.tells {D V : List Fact} (h : Lend D V) (k : Nat) (f : Fact) (A : Option Addr) (us : List Value) (hf : D[k]? = some f) (hi : Tells f A us) : Lend D (vw A us :: V) := h.cons k f _ hf rfl hi

section
variable {X : Cx} {U : Tab} (hU : U.OK X.P) {t : Env} {D : List Fact} {φ : Env → List Fact → Prop}

omit hU in
theorem cells_at {A : Option Addr} {us : List Value} {w : World} {fp : FP} (h : (vw A us).P w fp) {p : Nat} (hp : p < us.length) : ∃ a, A = some a ∧ ∀ j u, us[p + j]? = some u → w.cell? ((a.add p).add j) = some u := by
  obtain ⟨ad, rfl, hc⟩ := vw_cells h (by omega)
  refine ⟨ad, rfl, fun j u hu => ?_⟩
  rcases Nat.eq_zero_or_pos p with h0 | h0
  · subst h0
    have := hc (0 + j) u hu
    simpa [Addr.add] using this
  · rcases Nat.eq_zero_or_pos j with h1 | h1
    · subst h1
      have := hc _ u hu
      simpa [Addr.add] using this
    · have := hc _ u hu
      have e : (ad.add p).add j = ad.add (p + j) := by
        unfold Addr.add
        rw [if_neg (by omega), if_neg (by omega), if_neg (by omega)]
        simp [Nat.add_assoc]
      rw [e]
      exact this

include hU

theorem run_load_tells {ty : TypeId} {x : Operand} {f : Fact} {A : Option Addr} {i : Int} {s : Nat} {us : List Value} {v : Value} (ht : Tells f A us) (hv : loadv U ty us (i.toNat * s) = some v) (hlt : i.toNat * s < us.length)
    {o : Oper} (hop : o.op = .load ty x) {a : Act} (hx : a.eval x = .pointer (elemAt A i s)) {w : World} {fp : FP} (hP : f.P w fp) : (execOp a.eval o).run X.P w = .ok (.value v) w := by
  obtain ⟨q, _, hq⟩ := ht w fp hP
  obtain ⟨ad, rfl, hc⟩ := cells_at hq hlt
  unfold execOp
  simp only [hop, hx]
  have := run_loadv hU (X := X) hv (a := ad.add (i.toNat * s)) (w := w) hc
  rw [Sem.run_bind, show elemAt (some ad) i s = some (ad.add (i.toNat * s)) from rfl, this]
  rfl

omit hU in
theorem Step.after {dst : Option Tmp} {op : Op} (h : Step X dst op t D (fun t' D' => ∃ D2, (∀ w0 W w, SAT w0 W D' w → SAT w0 W D2 w) ∧ φ t' D2)) : Step X dst op t D φ :=
  fun o hd ho ρ a w ha hw Q K hK => h o hd ho ρ a w ha hw Q K (fun t' D' a' w' h1 h2 ⟨D2, h3, h4⟩ => hK t' D2 a' w' h1 (h3 _ _ w' h2) h4)

/-- An element is read. -/
theorem Step.load {d : Nat} {ty : TypeId} {x : Operand} (k0 : Nat) (f : Fact) (A : Option Addr) (i : Int) (s : Nat) (us : List Value) (v : Value) (hx : ev t x = some (.pointer (elemAt A i s))) (hD : D[k0]? = some f) (ht : Tells f A us) (hlt : i.toNat * s < us.length) (hv : loadv U ty us (i.toNat * s) = some v)
    (hd : Nat.ble (d + 1) X.N = true) (k : φ (put t d v) D) : Step X (some d) (.load ty x) t D φ := by
  intro op hdst hop ρ a w ha hw Q K hK
  obtain ⟨fp, hh⟩ := hw.get k0 hD
  refine wp_val (run_load_tells hU ht hv hlt hop (ha.ev hx) hh) (hK _ _ _ _ ?_ hw k)
  rw [hdst]
  exact ha.put (Nat.le_of_ble_eq_true hd) _

theorem Reads.load {Θ : List Fact} {d : Option Nat} {ty : TypeId} {x : Operand} (k0 : Nat) (f : Fact) (A : Option Addr) (i : Int) (s : Nat) (us : List Value) (v : Value) (hx : ev t x = some (.pointer (elemAt A i s))) (hD : Θ[k0]? = some f) (ht : Tells f A us) (hlt : i.toNat * s < us.length) (hv : loadv U ty us (i.toNat * s) = some v) :
    Reads X Θ d (.load ty x) t v := by
  intro op hdst hop ρ a w ha hΘ
  obtain ⟨fp, hP⟩ := hΘ f (List.mem_of_getElem? hD)
  exact run_load_tells hU ht hv hlt hop (ha.ev hx) hP

theorem Reads.load_blk {Θ : List Fact} {d : Option Nat} {ty : TypeId} {x : Operand} (k0 : Nat) (b o T : Nat) (cs : List Value) (v : Value) (hx : ev t x = some (.pointer (some ⟨b, o, none⟩))) (hD : Θ[k0]? = some (blk b T cs)) (hv : loadv U ty cs o = some v) :
    Reads X Θ d (.load ty x) t v := by
  intro op hdst hop ρ a w ha hΘ
  obtain ⟨fp, hh, _⟩ := hΘ _ (List.mem_of_getElem? hD)
  unfold execOp
  simp only [hop, ha.ev hx]
  have := run_loadv hU (X := X) hv (a := ⟨b, o, none⟩) (w := w) (fun j u hu => by rw [Addr.add_mid, cell_of_row w b _ _ T _ hh]; simpa using hu)
  rw [Sem.run_bind, this]
  rfl

omit hU in
theorem loadv_num {ty : TypeId} {k : IntKind} (hty : look U.und ty = some (.int k)) (xs : List Int) (i : Nat) (h : i < xs.length) : loadv U ty (nums k xs) i = some (.int k (xs.getD i 0)) := by
  unfold loadv
  rw [show isRowTy U ty = some false by unfold isRowTy; rw [hty]]
  exact nums_get k xs i h

/-- An element (or a part of one) of a row is written. -/
theorem Step.store_row {ty : TypeId} {x y : Operand} (k0 : Nat) (T s n cap : Nat) (A : Option Addr) (cs : List Value) (i : Int) (v : Value) (hx : ev t x = some (.pointer (elemAt A i s))) (hy : ev t y = some v) (hD : D[k0]? = some (row T s (.slice A n cap) n cs))
    (m : Nat) (hm : look U.sz ty = some m) (us : List Value) (hus : v.cells.toList = us) (hl : us.length = m) (h1 : us.all (·.oneCell') = true) (hle : i.toNat * s + m ≤ cs.length) (hlt : i.toNat * s < cs.length)
    (k : φ t (row T s (.slice A n cap) n (wr cs (i.toNat * s) us) :: D.eraseIdx k0)) : Step X none (.store ty x y) t D φ := by
  intro op hdst hop ρ a w ha hw Q K hK
  have hw' := hw.pull hD
  have hlen := (row_len hw').1
  have hn : 0 < n := by
    rcases Nat.eq_zero_or_pos n with h0 | h0
    · rw [h0] at hlen; simp at hlen; rw [hlen] at hlt; simp at hlt
    · exact h0
  obtain ⟨b, cap', ex, hv, hnc, hcm, hex, hw2⟩ := row_open hw' hn
  injection hv with hA _ hcap
  subst hA; subst hcap
  obtain ⟨fp, hh, _⟩ := hw2.head
  have hst := run_storeCells_at X.P b (i.toNat * s) T us 0 (cs ++ ex).toArray w hh (by simp; omega) (fun u hu => List.all_eq_true.1 h1 u hu)
  simp only [Nat.add_zero] at hst
  have hwr : wr (cs ++ ex) (i.toNat * s) us = wr cs (i.toNat * s) us ++ ex := by
    unfold wr
    rw [List.take_append_of_le_length (by omega), List.drop_append_of_le_length (by omega)]
    simp
  have hr : (execOp a.eval op).run X.P w = .ok .skip (w.setRow b (wr (cs ++ ex) (i.toNat * s) us).toArray) := by
    unfold execOp
    have hsz : ¬ (v.cells.size ≠ m) := by rw [← hl, ← hus]; simp
    have he : elemAt (some (⟨b, 0, none⟩ : Addr)) i s = some ⟨b, i.toNat * s, none⟩ := by simp [elemAt, Addr.add_mid]
    simp only [hop, ha.ev hx, ha.ev hy, he, Instr.storeAt, Instr.sureAddr, storeVar, Sem.run_bind, Sem.run_pure, Result.andThen_ok, hU.run_sz hm, hsz, if_false]
    rw [hus, hst]
    simp [wr]
  have h3 := sat_setRow (cs' := wr (cs ++ ex) (i.toNat * s) us) hw2
  rw [hwr] at h3
  have hl2 : (wr cs (i.toNat * s) us).length = n * s := by rw [length_wr (by omega), hlen]
  have h4 := SAT.row_of_blk (s := s) h3 hnc hcm (by rw [List.length_append, hl2]; rw [List.length_append, hlen] at hex; exact hex)
  rw [← hl2, List.take_left] at h4
  rw [← hwr] at h4
  refine wp_unit hr (hK _ _ _ _ ?_ h4 k)
  rw [hdst]
  exact ha

/-- A row of numbers grows. -/
theorem Step.append_nums {d : Nat} {ty : TypeId} {x y : Operand} (e by_ : Nat) (z : Value) (kd : IntKind) (k0 k1 : Nat) (B : Option Addr) (n cap : Nat) (xs : List Int) (A : Option Addr) (m c : Nat) (f : Fact) (ys : List Int)
    (hty : look U.und ty = some (.slice e)) (hti : look U.ti e = some (1, by_, z)) (hzs : Nat.beq z.cells.size 1 = true)
    (hx : ev t x = some (.slice B n cap)) (hy : ev t y = some (.slice A m c)) (hD : D[k0]? = some (row e 1 (.slice B n cap) n (nums kd xs))) (hf : D[k1]? = some f) (hfu : Tells f A (nums kd ys))
    (hm : m = ys.length) (hn : n = xs.length) (h63 : xs.length + ys.length ≤ 140737488355328) (hb : (xs.length + ys.length) * by_ ≤ 140737488355328) (hd : Nat.ble (d + 1) X.N = true)
    (k : ∀ B' cap', (xs ++ ys).length ≤ cap' → (0 < (xs ++ ys).length → B'.isSome = true) → φ (put t d (.slice B' (xs ++ ys).length cap')) (row e 1 (.slice B' (xs ++ ys).length cap') (xs ++ ys).length (nums kd (xs ++ ys)) :: D.eraseIdx k0)) :
    Step X (some d) (.call { callee := .builtin .append, args := #[x, y], argTypes := #[ty, ty] }) t D φ := by
  subst hm; subst hn
  intro o hdst hop ρ a w ha hw Q K hK
  refine Step.append (φ := fun t' D' => ∃ B' cap', t' = put t d (.slice B' (xs ++ ys).length cap') ∧ (0 < (xs ++ ys).length → B'.isSome = true) ∧ D' = row e 1 (.slice B' (xs ++ ys).length cap') (xs ++ ys).length (nums kd (xs ++ ys)) :: D.eraseIdx k0) hU e 1 by_ z k0 k1 _ xs.length (nums kd xs) A ys.length c f (nums kd ys) hty hti (Nat.eq_of_beq_eq_true hzs) (by decide) hx hy hD hf hfu (by simp [nums_length]) (nums_one kd ys) h63 hb hd (fun v' hv' => ?_) o hdst hop ρ a w ha hw Q K (fun t' D' a' w' h1 h2 h3 => ?_)
  · rw [← nums_append, ← List.length_append]
    rw [← List.length_append] at hv'
    obtain ⟨B', cap', rfl, hs⟩ := hv'
    exact ⟨B', cap', rfl, hs, rfl⟩
  · obtain ⟨B', cap', rfl, hs, rfl⟩ := h3
    refine hK _ _ _ _ h1 h2 (k B' cap' ?_ hs)
    obtain ⟨A', c', hv, hn, _⟩ := row_form h2
    injection hv with _ _ hc
    rw [hc]; exact hn
end
end Go.Proofs.YtjhinpmnpdgadaaDoor.SL
