/- Rows of rows that are owned: written out, appended to, lent. -/
import Derived.Test.YtkehpipialmneaaSLs
namespace Go.Proofs.Ytkehpipialmneaa.SL
set_option linter.unusedVariables false
set_option linter.unusedSimpArgs false
open Go

theorem vals_one {rs : List Ro} : ∀ u ∈ rowsV rs, u.oneCell' = true := fun u hu => by
  obtain ⟨r, _, rfl⟩ := List.mem_map.1 hu
  rfl
theorem rowsV_append (a b : List Ro) : rowsV (a ++ b) = rowsV a ++ rowsV b := List.map_append
/-- A row of slices written out. -/
def bsr (t : Env) : Nat → List (Nat × Operand) → Option (List Value)
  | _, [] => some []
  | j, (i, x) :: ps => match Nat.beq i j, ev t x, bsr t (j + 1) ps with
    | true, some (.slice A n c), some vs => some (.slice A n c :: vs)
    | _, _, _ => none
theorem fill_rows {N : Nat} {ρ : Root} {t : Env} {a : Act} (ha : EnvOK N ρ t a) {pl : Nat → Option (Nat × Nat)} (hpl : ∀ i, pl i = some (i, 1)) : ∀ {ps : List (Nat × Operand)} {j : Nat} {vs : List Value} {cells : Array Value}, bsr t j ps = some vs → j + vs.length = cells.size →
    Instr.fill pl cells (ps.map fun p => (p.1, a.eval p.2)) = some (cells.toList.take j ++ vs).toArray
  | [], j, vs, cells, h, hl => by
    cases h
    simp only [List.map_nil, Instr.fill, List.append_nil]
    rw [List.take_of_length_le (by simp at hl; simp; omega)]
  | (i, x) :: ps, j, vs, cells, h, hl => by
    unfold bsr at h
    split at h
    · rename_i A n c vs' hb hx hr
      cases h
      obtain rfl := Nat.eq_of_beq_eq_true hb
      simp only [List.length_cons] at hl
      have ih := fill_rows ha hpl (cells := cells.setIfInBounds i (.slice A n c)) hr (by simp; omega)
      have hlt : ¬ cells.size < i + 1 := by omega
      simp only [List.map_cons, Instr.fill, hpl, ha.ev hx]
      simp [Value.cells, hlt]
      rw [ih]
      congr 2
      rw [Array.toList_setIfInBounds, List.set_eq_take_append_cons_drop, if_pos (by simp; omega)]
      rw [List.take_append, List.length_take, Array.length_toList, Nat.min_eq_left (by omega)]
      simp [List.take_take]
    · cases h

section
variable {X : Cx} {U : Tab} (hU : U.OK X.P) {t : Env} {D : List Fact} {φ : Env → List Fact → Prop}
include hU
theorem Step.lit_rows {d : Nat} {ty : TypeId} {n : Nat} {ps : Array (Nat × Operand)} (e by_ : Nat) (z : Value) (vs : List Value) (hty : look U.und ty = some (.slice e)) (hti : look U.ti e = some (1, by_, z)) (hps : bsr t 0 ps.toList = some vs) (hn : Nat.beq vs.length n = true) (hsm : Nat.ble n 16777216 = true) (hd : Nat.ble (d + 1) X.N = true)
    (k : ∀ b, φ (put t d (.slice (some ⟨b, 0, none⟩) n n)) (row e 1 (.slice (some ⟨b, 0, none⟩) n n) n vs :: D)) : Step X (some d) (.buildSlice ty n ps) t D φ := by
  intro o hdst hop ρ a w ha hw Q K hK
  obtain ⟨i, hi, h1, h2, h3⟩ := hU.ti _ (look_mem hti)
  simp only at hi h1 h2 h3
  obtain rfl := Nat.eq_of_beq_eq_true hn
  have hsm := Nat.le_of_ble_eq_true hsm
  have hund := hU.und _ (look_mem hty)
  simp only at hund
  have hfill : ∀ (pl : Nat → Option (Nat × Nat)) (cells : Array Value), (∀ i, pl i = some (i, 1)) → cells.size = vs.length → Instr.fill pl cells (ps.map fun p => (p.1, a.eval p.2)).toList = some vs.toArray := by
    intro pl cells hpl hc
    have := fill_rows ha hpl (cells := cells) hps (by omega)
    simpa using this
  have hr : (execOp a.eval o).run X.P w = .ok (.value (.slice (some ⟨w.heap.size, 0, none⟩) vs.length vs.length)) (w.alloc (.cells vs.toArray e (0, 0))) := by
    unfold execOp
    have h48 : ¬ (vs.length > 2 ^ 24) := by omega
    have hf := fun cells hc => hfill (fun i => some (i, 1)) cells (fun i => rfl) hc
    by_cases h0 : vs.length = 0
    · simp only [hop, Instr.buildSlice, Sem.run_bind, run_underlying hund, Result.andThen_ok, sizeOf, typeInfo, run_program, hi, h1, Sem.run_pure, Nat.mul_one, Sem.run_ite, h48, if_false, h0, if_true]
      rw [hf _ (by simp [h0])]
      simp [newRow]
    · simp only [hop, Instr.buildSlice, Sem.run_bind, run_underlying hund, Result.andThen_ok, sizeOf, typeInfo, run_program, hi, h1, Sem.run_pure, Nat.mul_one, Sem.run_ite, h48, if_false, h0, zeroValue, h3]
      rw [hf _ (by simp)]
      simp [newRow]
  have hs := hw.alloc _ (blk w.heap.size e vs) rfl (blk_new w e _)
  have hs2 := SAT.row_of_blk (s := 1) (n := vs.length) (cap := vs.length) hs (Nat.le_refl _) (by simp only [maxLen]; omega) (by simp)
  rw [List.take_of_length_le (by simp)] at hs2
  refine wp_val hr (hK _ _ _ _ ?_ hs2 (k w.heap.size))
  rw [hdst]
  exact ha.put (Nat.le_of_ble_eq_true hd) _
theorem Step.append_rows {d : Nat} {ty : TypeId} {x y : Operand} (e by_ : Nat) (z : Value) (k0 k1 : Nat) (B : Option Addr) (n cap : Nat) (rs : List Ro) (A : Option Addr) (m c : Nat) (f : Fact) (qs : List Ro)
    (hty : look U.und ty = some (.slice e)) (hti : look U.ti e = some (1, by_, z)) (hzs : Nat.beq z.cells.size 1 = true)
    (hx : ev t x = some (.slice B n cap)) (hy : ev t y = some (.slice A m c)) (hD : D[k0]? = some (row e 1 (.slice B n cap) n (rowsV rs))) (hf : D[k1]? = some f) (hfu : Tells f A (rowsV qs))
    (hm : m = qs.length) (hn : n = rs.length) (h63 : rs.length + qs.length ≤ 140737488355328) (hb : (rs.length + qs.length) * by_ ≤ 140737488355328) (hd : Nat.ble (d + 1) X.N = true)
    (k : ∀ B' cap', (rs ++ qs).length ≤ cap' → (0 < (rs ++ qs).length → B'.isSome = true) → φ (put t d (.slice B' (rs ++ qs).length cap')) (row e 1 (.slice B' (rs ++ qs).length cap') (rs ++ qs).length (rowsV (rs ++ qs)) :: D.eraseIdx k0)) :
    Step X (some d) (.call { callee := .builtin .append, args := #[x, y], argTypes := #[ty, ty] }) t D φ := by
  subst hm; subst hn
  intro o hdst hop ρ a w ha hw Q K hK
  refine Step.append (φ := fun t' D' => ∃ B' cap', t' = put t d (.slice B' (rs ++ qs).length cap') ∧ (0 < (rs ++ qs).length → B'.isSome = true) ∧ D' = row e 1 (.slice B' (rs ++ qs).length cap') (rs ++ qs).length (rowsV (rs ++ qs)) :: D.eraseIdx k0) hU e 1 by_ z k0 k1 _ rs.length (rowsV rs) A qs.length c f (rowsV qs) hty hti (Nat.eq_of_beq_eq_true hzs) (by decide) hx hy hD hf hfu (by simp [rowsV_len]) vals_one h63 hb hd (fun v' hv' => ?_) o hdst hop ρ a w ha hw Q K (fun t' D' a' w' h1 h2 h3 => ?_)
  · rw [← rowsV_append, ← List.length_append]
    rw [← List.length_append] at hv'
    obtain ⟨B', cap', rfl, hs⟩ := hv'
    exact ⟨B', cap', rfl, hs, rfl⟩
  · obtain ⟨B', cap', rfl, hs, rfl⟩ := h3
    refine hK _ _ _ _ h1 h2 (k B' cap' ?_ hs)
    obtain ⟨A', c', hv, hn, _⟩ := row_form h2
    injection hv with _ _ hc
    rw [hc]; exact hn
end

/-! ### Many rows lent -/
theorem vws_split {L : List (Option Addr × List Value)} {w : World} {O R : FP} (h : ∃ fp, (vws L).P w fp ∧ ∀ b, fp b → R b) {A : Option Addr} {us : List Value} {q : FP} (hq : (vw A us).P w q) (hR : ∀ b, q b → R b) : ∃ fp, (vws ((A, us) :: L)).P w fp ∧ ∀ b, fp b → R b := by
  obtain ⟨fp, hp, hb⟩ := h
  refine ⟨fun b => fp b ∨ q b, ⟨fun x hx => hx.elim (hp.1 x) (hq.1 x), fun r hr h0 => ?_⟩, fun b hb' => hb'.elim (hb b) (hR b)⟩
  rcases List.mem_cons.1 hr with rfl | hr
  · obtain ⟨a, h1, h2, h3⟩ := hq.2 h0
    exact ⟨a, h1, .inr h2, h3⟩
  · obtain ⟨a, h1, h2, h3⟩ := hp.2 r hr h0
    exact ⟨a, h1, .inl h2, h3⟩
theorem Lend.rows0 {D V : List Fact} (h : Lend D V) (k : IntKind) : Lend D (vws (rowsL k []) :: V) := fun w O R hs =>
  ⟨fun _ => False, ⟨fun x hx => hx.elim, fun r hr => (by cases hr)⟩, fun b hb => hb.elim, h w O R hs⟩
theorem Lend.rows1 {D V : List Fact} {k : IntKind} {rs : List Ro} (h : Lend D (vws (rowsL k rs) :: V)) (j : Nat) (f : Fact) (A : Option Addr) (c : Nat) (xs : List Int) (hf : D[j]? = some f) (ht : Tells f A (nums k xs)) : Lend D (vws (rowsL k ((A, c, xs) :: rs)) :: V) := fun w O R hs => by
  obtain ⟨fp, hp, hb⟩ := sat_of_mem (List.mem_of_getElem? hf) hs
  obtain ⟨q, hq, hq2⟩ := ht w fp hp
  obtain ⟨fp2, hp2, h3⟩ := h w O R hs
  obtain ⟨fp3, hp3, h4⟩ := vws_split (O := O) ⟨fp2, hp2, h3.1⟩ hq2 (fun b hb' => hb b (hq b hb'))
  exact ⟨fp3, hp3, h4, h3.2⟩
theorem RowsOK.nil (k : IntKind) : RowsOK k [] := fun r hr => by cases hr
theorem RowsOK.cons {k : IntKind} {A : Option Addr} {c : Nat} {xs : List Int} {rs : List Ro} (h1 : In k xs) (h2 : xs.length ≤ c) (h3 : xs.length ≤ 140737488351232) (h : RowsOK k rs) : RowsOK k ((A, c, xs) :: rs) := fun r hr => by
  rcases List.mem_cons.1 hr with rfl | hr
  · exact ⟨h1, h2, h3⟩
  · exact h r hr
/-- All rows' numbers, one row behind the other. -/
def cat (rs : List Ro) : List Int := rs.flatMap (·.2.2)
theorem cat_nil : cat [] = [] := rfl
theorem cat_cons (A : Option Addr) (c : Nat) (xs : List Int) (rs : List Ro) : cat ((A, c, xs) :: rs) = xs ++ cat rs := rfl
theorem cat_step {rs : List Ro} {i : Nat} {A : Option Addr} {c : Nat} {xs : List Int} (h : rs[i]? = some (A, c, xs)) : cat (rs.take i) ++ xs = cat (rs.take (i + 1)) := by
  obtain ⟨hi, e⟩ := List.getElem?_eq_some_iff.1 h
  rw [List.take_succ_eq_append_getElem hi, e]
  simp [cat]
theorem cat_at {rs : List Ro} {i : Nat} {A : Option Addr} {c : Nat} {xs : List Int} (h : rs[i]? = some (A, c, xs)) : (cat (rs.take i)).length + xs.length = (cat (rs.take (i + 1))).length ∧ (cat (rs.take (i + 1))).length ≤ (cat rs).length := by
  refine ⟨by rw [← cat_step h, List.length_append], ?_⟩
  conv => rhs; rw [← List.take_append_drop (i + 1) rs]
  simp only [cat, List.flatMap_append, List.length_append]
  omega
theorem cat_le (rs : List Ro) (i : Nat) : (cat (rs.take i)).length ≤ (cat rs).length := by
  conv => rhs; rw [← List.take_append_drop i rs]
  simp only [cat, List.flatMap_append, List.length_append]
  omega
end Go.Proofs.Ytkehpipialmneaa.SL
