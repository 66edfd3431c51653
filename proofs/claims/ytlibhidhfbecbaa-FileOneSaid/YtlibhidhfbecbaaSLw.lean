import Derived.Test.YtlibhidhfbecbaaSLq
import Derived.SizedLaws
import Derived.ChangeSlices
import Derived.ChangeReads
import Derived.ChangeArms
import Derived.Lib.AppendZeros
/- What a law's row tells of its arguments, in the calculus' words; and how long a row of numbers may be. -/
namespace Go.Proofs.Ytlibhidhfbecbaa.SL
set_option linter.unusedVariables false
set_option linter.unusedSimpArgs false
open Go Go.ChangeShapes Go.WideShapes

theorem wf_fits {k : IntKind} {n : Int} (h : (Lit.int k n).wf = true) : fits k n := by
  simp only [Lit.wf, Bool.and_eq_true, decide_eq_true_eq] at h
  obtain ⟨h1, h2⟩ := h
  cases k <;> simp [IntKind.min, IntKind.max, IntKind.signed, IntKind.bits] at h1 h2 <;> simp only [fits] <;> omega

def IsRow (k : IntKind) (w : World) (a : Option Addr) (len cap : Nat) (zs : List Int) : Prop :=
  (a = none ∧ len = 0 ∧ cap = 0 ∧ zs = []) ∨
  ∃ x, a = some x ∧ len ≤ cap ∧ cap ≤ maxLen ∧ zs.length = cap ∧ (∀ i, i < zs.length → w.cell? (x.add i) = some (.int k (zs.getD i 0))) ∧ ∀ n ∈ zs, (Lit.int k n).wf = true

theorem IsRow.use {k : IntKind} {w : World} {a : Option Addr} {len cap : Nat} {zs : List Int} (h : IsRow k w a len cap zs) :
    ∃ xs : List Int, xs.length = len ∧ len ≤ cap ∧ In k xs ∧ (0 < (nums k xs).length → ∃ x, a = some x ∧ ∀ j v, (nums k xs)[j]? = some v → w.cell? (x.add j) = some v) := by
  rcases h with ⟨_, rfl, _, _⟩ | ⟨x, rfl, h1, _, h3, h4, h5⟩
  · exact ⟨[], rfl, Nat.zero_le _, In.nil _, fun h => by simp [nums] at h⟩
  · refine ⟨zs.take len, by rw [List.length_take]; omega, h1, fun n hn => wf_fits (h5 n (List.mem_of_mem_take hn)), fun _ => ⟨x, rfl, fun j v hv => ?_⟩⟩
    have hj := (List.getElem?_eq_some_iff.1 hv).1
    rw [nums_length, List.length_take] at hj
    rw [nums_get _ _ _ (by rw [List.length_take]; omega)] at hv
    rw [h4 j (by omega), ← hv]
    congr 2
    rw [List.getD_eq_getElem?_getD, List.getD_eq_getElem?_getD, List.getElem?_take, if_pos (by omega)]

theorem row_bound {H : Type} {enc : TypeId × Value → H} {P : Program} {W : World} {base : Nat} {spare : Nat → Bool} {held : Bool} {t e : TypeId} {k : IntKind} {a : Option Addr} {len cap : Nat} {d : DataW H} {ps : List MemPlace} {ts : List TypeId} {ds : List (DataW H)} {j : Nat}
    (hsz : (DataW.weightsEach P ts ds).all (· ≤ reachBytes) = true) (ht : ts[j]? = some t) (hd : ds[j]? = some d) (hu : P.underlying t = some (.slice e)) (he : P.underlying e = some (.int k)) (hc : P.cellsOf e = 1) {B : Nat} (hB : P.bytesOf e = B)
    (h : DataW.Trod enc P W base spare held t (.slice a len cap) d ps) : len * B ≤ 140737488351232 := by
  obtain ⟨fuel, hf⟩ := h
  rcases open_ints hu he hc hf with ⟨hcs, _⟩ | ⟨x, l, c, zs, hcs, _, hl, _, hz, hx, _, _⟩
  · simp [Value.cells] at hcs
    simp [hcs.2.1]
  · simp [Value.cells] at hcs
    obtain ⟨rfl, rfl, rfl⟩ := hcs
    cases (Prod.mk.inj hx).1
    have z := sized_slice hsz ht hd hu
    rw [hB] at z
    refine Nat.le_trans (Nat.mul_le_mul_right _ ?_) z
    have hl2 : len ≤ zs.length := by rw [hz]; split <;> omega
    simp [lits]
    omega

section
variable {H : Type} {enc : TypeId × Value → H} {P : Program} {w : World} {base : Nat} {spare : Nat → Bool} {held : Bool}

def Opens (enc : TypeId × Value → H) (P : Program) (w : World) (base : Nat) (spare : Nat → Bool) (held : Bool) (t : TypeId) (R : List Value → Prop) : Prop :=
  ∀ fuel cs x, DataW.trod enc P w base spare held fuel t cs = some x → R cs

def Each : List (List Value → Prop) → List Value → Prop
  | [], cs => cs = []
  | [R], cs => R cs
  | R :: S :: Rs, cs => ∃ p r, cs = p ++ r ∧ R p ∧ Each (S :: Rs) r
theorem Each.cons {R : List Value → Prop} {Rs : List (List Value → Prop)} {p r : List Value} (hp : R p) (hr : Each Rs r) : Each (R :: Rs) (p ++ r) := by
  match Rs, hr with
  | [], hr => rw [show r = [] from hr, List.append_nil]; exact hp
  | S :: Rs, hr => exact ⟨p, r, rfl, hp, hr⟩
def OpenAll (enc : TypeId × Value → H) (P : Program) (w : World) (base : Nat) (spare : Nat → Bool) (held : Bool) : List Field → List (List Value → Prop) → Prop
  | [], [] => True
  | f :: fs, R :: Rs => Opens enc P w base spare held f.type R ∧ OpenAll enc P w base spare held fs Rs
  | _, _ => False
theorem OpenAll.nil : OpenAll enc P w base spare held [] [] := trivial
theorem OpenAll.cons {f : Field} {fs : List Field} {R : List Value → Prop} {Rs : List (List Value → Prop)} (h1 : Opens enc P w base spare held f.type R) (h2 : OpenAll enc P w base spare held fs Rs) : OpenAll enc P w base spare held (f :: fs) (R :: Rs) := ⟨h1, h2⟩
end
end Go.Proofs.Ytlibhidhfbecbaa.SL

/- What a datum's walk tells of its cells, with how much it may weigh; rows of rows. -/
namespace Go.Proofs.Ytlibhidhfbecbaa.SL
set_option linter.unusedVariables false
set_option linter.unusedSimpArgs false
open Go Go.ChangeShapes Go.WideShapes

section
variable {H : Type} {enc : TypeId × Value → H} {P : Program} {w : World}

def Told (k : IntKind) (w : World) (a : Option Addr) (xs : List Int) : Prop := 0 < (nums k xs).length → ∃ x, a = some x ∧ ∀ j v, (nums k xs)[j]? = some v → w.cell? (x.add j) = some v
abbrev Ro := Option Addr × Nat × List Int
def rowsV (rs : List Ro) : List Value := rs.map fun r => .slice r.1 r.2.2.length r.2.1
def RowsOK (k : IntKind) (rs : List Ro) : Prop := ∀ r ∈ rs, In k r.2.2 ∧ r.2.2.length ≤ r.2.1 ∧ r.2.2.length ≤ 140737488351232
theorem rowsV_len (rs : List Ro) : (rowsV rs).length = rs.length := List.length_map _
theorem row_at {k : IntKind} {rs : List Ro} (h : RowsOK k rs) {i : Nat} (hi : i < rs.length) : ∃ A c xs, rs[i]? = some (A, c, xs) ∧ In k xs ∧ xs.length ≤ c ∧ xs.length ≤ 140737488351232 := by
  obtain ⟨A, c, xs⟩ : Ro := rs[i]
  have := h (rs[i]) (List.getElem_mem hi)
  exact ⟨rs[i].1, rs[i].2.1, rs[i].2.2, List.getElem?_eq_getElem hi, this⟩
end

def vws (L : List (Option Addr × List Value)) : Fact where
  own := false
  P := fun w fp => (∀ x, fp x → x < w.heap.size) ∧ ∀ r ∈ L, 0 < r.2.length → ∃ a, r.1 = some a ∧ fp a.block ∧ ∀ j v, r.2[j]? = some v → w.cell? (a.add j) = some v
  loc := fun h hl => ⟨fun x hx => lt_of_heap (h.1 x hx) (hl x hx), fun r hr hp => by
    obtain ⟨a, h1, h2, h4⟩ := h.2 r hr hp
    exact ⟨a, h1, h2, fun j v hv => by rw [← h4 j v hv]; exact World.cell?_of_block (by rw [add_block]; exact hl _ h2)⟩⟩
  bnd := fun h b hb => h.1 b hb
theorem tells_vws {L : List (Option Addr × List Value)} {A : Option Addr} {us : List Value} (h : (A, us) ∈ L) : Tells (vws L) A us := fun w fp hp => ⟨fp, fun _ hb => hb, hp.1, fun h0 => hp.2 _ h h0⟩
def rowsL (k : IntKind) (rs : List Ro) : List (Option Addr × List Value) := rs.map fun r => (r.1, nums k r.2.2)
theorem loadv_row {U : Tab} {ty : TypeId} {rs : List Ro} {i o c : Nat} {A : Option Addr} {xs : List Int} (hty : isRowTy U ty = some false) (h : rs[i]? = some (A, c, xs)) (ho : o = i) : loadv U ty (rowsV rs) o = some (.slice A xs.length c) := by
  subst ho
  unfold loadv
  rw [hty]
  simp only [rowsV, List.getElem?_map, h]
  rfl
theorem SAT.args {w : World} {D : List Fact} (h : SAT w (fun _ => False) D w) (k : IntKind) (rs : List Ro) (hc : ∀ r ∈ rs, Told k w r.1 r.2.2) : SAT w (fun _ => False) (vws (rowsL k rs) :: D) w := by
  obtain ⟨fr, O, R, h1, h2, h3, h4⟩ := h
  have hO : ∀ b, ¬ O b := fun b hb => by
    rcases h3 b hb with h | h
    · have := h4 b (.inl hb); omega
    · exact h
  refine ⟨fr, O, fun b => b < w.heap.size, ⟨fun b => b < w.heap.size, ⟨fun _ h => h, fun r hr hp => ?_⟩, fun _ h => h, sat_mono h1 (fun _ h => h) (fun b hb => h4 b (.inr hb))⟩, fun b hb => absurd hb (hO b), h3, fun b hb => hb.elim (fun h => absurd h (hO b)) id⟩
  obtain ⟨r0, hr0, rfl⟩ := List.mem_map.1 hr
  obtain ⟨a, hA, hcell⟩ := hc r0 hr0 hp
  refine ⟨a, hA, ?_, hcell⟩
  have := hcell 0 (nums k r0.2.2)[0] (by simp)
  have := World.block_lt_of_cell? w _ this
  rwa [add_block] at this
end Go.Proofs.Ytlibhidhfbecbaa.SL

/- Rows of rows that are owned: written out, appended to, lent. -/
namespace Go.Proofs.Ytlibhidhfbecbaa.SL
set_option linter.unusedVariables false
set_option linter.unusedSimpArgs false
open Go

theorem vals_one {rs : List Ro} : ∀ u ∈ rowsV rs, u.oneCell' = true := fun u hu => by
  obtain ⟨r, _, rfl⟩ := List.mem_map.1 hu
  rfl
theorem rowsV_append (a b : List Ro) : rowsV (a ++ b) = rowsV a ++ rowsV b := List.map_append
def bsr (t : Env) : Nat → List (Nat × Operand) → Option (List Value)
  | _, [] => some []
  | j, (i, x) :: ps => match Nat.beq i j, ev t x, bsr t (j + 1) ps with
    | true, some (.slice A n c), some vs => some (.slice A n c :: vs)
    | _, _, _ => none
theorem fill_rows {N : Nat} {ρ : Root} {t : Env} {a : Act} (ha : EnvOK N ρ t a) {pl : Nat → Option (Nat × Nat)} (hpl : ∀ i, pl i = some (i, 1)) : ∀ {ps : List (Nat × Operand)} {j : Nat} {vs : List Value} {cells : Array Value}, bsr t j ps = some vs → j + vs.length = cells.size →
    Instr.fill pl cells (ps.map fun p => (p.1, a.eval p.2)) = some (cells.toList.take j ++ vs).toArray
  | [], j, vs, cells, h, hl => by
    cases h
    simp only [List.map_nil, Instr.fill, List.append_nil]
    rw [List.take_of_length_le (by simp at hl; simp; omega)]
  | (i, x) :: ps, j, vs, cells, h, hl => by
    unfold bsr at h
    split at h
    · rename_i A n c vs' hb hx hr
      cases h
      obtain rfl := Nat.eq_of_beq_eq_true hb
      simp only [List.length_cons] at hl
      have ih := fill_rows ha hpl (cells := cells.setIfInBounds i (.slice A n c)) hr (by simp; omega)
      have hlt : ¬ cells.size < i + 1 := by omega
      simp only [List.map_cons, Instr.fill, hpl, ha.ev hx]
      simp [Value.cells, hlt]
      rw [ih]
      congr 2
      rw [Array.toList_setIfInBounds, List.set_eq_take_append_cons_drop, if_pos (by simp; omega)]
      rw [List.take_append, List.length_take, Array.length_toList, Nat.min_eq_left (by omega)]
      simp [List.take_take]
    · cases h

section
variable {X : Cx} {U : Tab} (hU : U.OK X.P) {t : Env} {D : List Fact} {φ : Env → List Fact → Prop}
include hU
theorem Step.lit_rows {d : Nat} {ty : TypeId} {n : Nat} {ps : Array (Nat × Operand)} (e by_ : Nat) (z : Value) (vs : List Value) (hty : look U.und ty = some (.slice e)) (hti : look U.ti e = some (1, by_, z)) (hps : bsr t 0 ps.toList = some vs) (hn : Nat.beq vs.length n = true) (hsm : Nat.ble n 16777216 = true) (hd : Nat.ble (d + 1) X.N = true)
    (k : ∀ b, φ (put t d (.slice (some ⟨b, 0, none⟩) n n)) (row e 1 (.slice (some ⟨b, 0, none⟩) n n) n vs :: D)) : Step X (some d) (.buildSlice ty n ps) t D φ := by
  intro o hdst hop ρ a w ha hw Q K hK
  obtain ⟨i, hi, h1, h2, h3⟩ := hU.ti _ (look_mem hti)
  simp only at hi h1 h2 h3
  obtain rfl := Nat.eq_of_beq_eq_true hn
  have hsm := Nat.le_of_ble_eq_true hsm
  have hund := hU.und _ (look_mem hty)
  simp only at hund
  have hfill : ∀ (pl : Nat → Option (Nat × Nat)) (cells : Array Value), (∀ i, pl i = some (i, 1)) → cells.size = vs.length → Instr.fill pl cells (ps.map fun p => (p.1, a.eval p.2)).toList = some vs.toArray := by
    intro pl cells hpl hc
    have := fill_rows ha hpl (cells := cells) hps (by omega)
    simpa using this
  have hr : (execOp a.eval o).run X.P w = .ok (.value (.slice (some ⟨w.heap.size, 0, none⟩) vs.length vs.length)) (w.alloc (.cells vs.toArray e (0, 0))) := by
    unfold execOp
    have h48 : ¬ (vs.length > 2 ^ 24) := by omega
    have hf := fun cells hc => hfill (fun i => some (i, 1)) cells (fun i => rfl) hc
    by_cases h0 : vs.length = 0
    · simp only [hop, Instr.buildSlice, Sem.run_bind, run_underlying hund, Result.andThen_ok, sizeOf, typeInfo, run_program, hi, h1, Sem.run_pure, Nat.mul_one, Sem.run_ite, h48, if_false, h0, if_true]
      rw [hf _ (by simp [h0])]
      simp [newRow]
    · simp only [hop, Instr.buildSlice, Sem.run_bind, run_underlying hund, Result.andThen_ok, sizeOf, typeInfo, run_program, hi, h1, Sem.run_pure, Nat.mul_one, Sem.run_ite, h48, if_false, h0, zeroValue, h3]
      rw [hf _ (by simp)]
      simp [newRow]
  have hs := hw.alloc _ (blk w.heap.size e vs) rfl (blk_new w e _)
  have hs2 := SAT.row_of_blk (s := 1) (n := vs.length) (cap := vs.length) hs (Nat.le_refl _) (by simp only [maxLen]; omega) (by simp)
  rw [List.take_of_length_le (by simp)] at hs2
  refine wp_val hr (hK _ _ _ _ ?_ hs2 (k w.heap.size))
  rw [hdst]
  exact ha.put (Nat.le_of_ble_eq_true hd) _
theorem Step.append_rows {d : Nat} {ty : TypeId} {x y : Operand} (e by_ : Nat) (z : Value) (k0 k1 : Nat) (B : Option Addr) (n cap : Nat) (rs : List Ro) (A : Option Addr) (m c : Nat) (f : Fact) (qs : List Ro)
    (hty : look U.und ty = some (.slice e)) (hti : look U.ti e = some (1, by_, z)) (hzs : Nat.beq z.cells.size 1 = true)
    (hx : ev t x = some (.slice B n cap)) (hy : ev t y = some (.slice A m c)) (hD : D[k0]? = some (row e 1 (.slice B n cap) n (rowsV rs))) (hf : D[k1]? = some f) (hfu : Tells f A (rowsV qs))
    (hm : m = qs.length) (hn : n = rs.length) (h63 : rs.length + qs.length ≤ 140737488355328) (hb : (rs.length + qs.length) * by_ ≤ 140737488355328) (hd : Nat.ble (d + 1) X.N = true)
    (k : ∀ B' cap', (rs ++ qs).length ≤ cap' → (0 < (rs ++ qs).length → B'.isSome = true) → φ (put t d (.slice B' (rs ++ qs).length cap')) (row e 1 (.slice B' (rs ++ qs).length cap') (rs ++ qs).length (rowsV (rs ++ qs)) :: D.eraseIdx k0)) :
    Step X (some d) (.call { callee := .builtin .append, args := #[x, y], argTypes := #[ty, ty] }) t D φ := by
  subst hm; subst hn
  intro o hdst hop ρ a w ha hw Q K hK
  refine Step.append (φ := fun t' D' => ∃ B' cap', t' = put t d (.slice B' (rs ++ qs).length cap') ∧ (0 < (rs ++ qs).length → B'.isSome = true) ∧ D' = row e 1 (.slice B' (rs ++ qs).length cap') (rs ++ qs).length (rowsV (rs ++ qs)) :: D.eraseIdx k0) hU e 1 by_ z k0 k1 _ rs.length (rowsV rs) A qs.length c f (rowsV qs) hty hti (Nat.eq_of_beq_eq_true hzs) (by decide) hx hy hD hf hfu (by simp [rowsV_len]) vals_one h63 hb hd (fun v' hv' => ?_) o hdst hop ρ a w ha hw Q K (fun t' D' a' w' h1 h2 h3 => ?_)
  · rw [← rowsV_append, ← List.length_append]
    rw [← List.length_append] at hv'
    obtain ⟨B', cap', rfl, hs⟩ := hv'
    exact ⟨B', cap', rfl, hs, rfl⟩
  · obtain ⟨B', cap', rfl, hs, rfl⟩ := h3
    refine hK _ _ _ _ h1 h2 (k B' cap' ?_ hs)
    obtain ⟨A', c', hv, hn, _⟩ := row_form h2
    injection hv with _ _ hc
    rw [hc]; exact hn
end

theorem vws_split {L : List (Option Addr × List Value)} {w : World} {O R : FP} (h : ∃ fp, (vws L).P w fp ∧ ∀ b, fp b → R b) {A : Option Addr} {us : List Value} {q : FP} (hq : (vw A us).P w q) (hR : ∀ b, q b → R b) : ∃ fp, (vws ((A, us) :: L)).P w fp ∧ ∀ b, fp b → R b := by
  obtain ⟨fp, hp, hb⟩ := h
  refine ⟨fun b => fp b ∨ q b, ⟨fun x hx => hx.elim (hp.1 x) (hq.1 x), fun r hr h0 => ?_⟩, fun b hb' => hb'.elim (hb b) (hR b)⟩
  rcases List.mem_cons.1 hr with rfl | hr
  · obtain ⟨a, h1, h2, h3⟩ := hq.2 h0
    exact ⟨a, h1, .inr h2, h3⟩
  · obtain ⟨a, h1, h2, h3⟩ := hp.2 r hr h0
    exact ⟨a, h1, .inl h2, h3⟩
theorem Lend.rows0 {D V : List Fact} (h : Lend D V) (k : IntKind) : Lend D (vws (rowsL k []) :: V) := fun w O R hs =>
  ⟨fun _ => False, ⟨fun x hx => hx.elim, fun r hr => (by cases hr)⟩, fun b hb => hb.elim, h w O R hs⟩
theorem Lend.rows1 {D V : List Fact} {k : IntKind} {rs : List Ro} (h : Lend D (vws (rowsL k rs) :: V)) (j : Nat) (f : Fact) (A : Option Addr) (c : Nat) (xs : List Int) (hf : D[j]? = some f) (ht : Tells f A (nums k xs)) : Lend D (vws (rowsL k ((A, c, xs) :: rs)) :: V) := fun w O R hs => by
  obtain ⟨fp, hp, hb⟩ := sat_of_mem (List.mem_of_getElem? hf) hs
  obtain ⟨q, hq, hq2⟩ := ht w fp hp
  obtain ⟨fp2, hp2, h3⟩ := h w O R hs
  obtain ⟨fp3, hp3, h4⟩ := vws_split (O := O) ⟨fp2, hp2, h3.1⟩ hq2 (fun b hb' => hb b (hq b hb'))
  exact ⟨fp3, hp3, h4, h3.2⟩
theorem RowsOK.nil (k : IntKind) : RowsOK k [] := fun r hr => by cases hr
theorem RowsOK.cons {k : IntKind} {A : Option Addr} {c : Nat} {xs : List Int} {rs : List Ro} (h1 : In k xs) (h2 : xs.length ≤ c) (h3 : xs.length ≤ 140737488351232) (h : RowsOK k rs) : RowsOK k ((A, c, xs) :: rs) := fun r hr => by
  rcases List.mem_cons.1 hr with rfl | hr
  · exact ⟨h1, h2, h3⟩
  · exact h r hr
end Go.Proofs.Ytlibhidhfbecbaa.SL

/- A drawn region in which two operations are ready: either may come first. -/
namespace Go.Proofs.Ytlibhidhfbecbaa.SL
set_option linter.unusedVariables false
set_option linter.unusedSimpArgs false
open Go
section
variable {X : Cx} {K : Post} {ops : Array Oper} {Θ : List Fact} {ds : List Nat} {t : Env} {D : List Fact} {fuel : Nat} {l : Array Bool}
theorem onList_mem {j : Nat} : ∀ {L : List Nat}, onList L j = true → j ∈ L
  | [], h => by cases h
  | k :: L, h => by
    unfold onList at h
    cases hb : Nat.beq k j with
    | true => rw [Nat.eq_of_beq_eq_true hb]; exact List.mem_cons_self
    | false => rw [hb] at h; exact List.mem_cons_of_mem _ (onList_mem h)
theorem RunU.two (i j : Nat) (li lj : Array Bool) {d1 d2 : Option Tmp} {o1 o2 : Op} (ks1 ks2 : List Nat) (hr : (Region.ready .any ops l == [i, j]) = true) (hl1 : (l.setIfInBounds i true == li) = true) (hl2 : (l.setIfInBounds j true == lj) = true) (h1 : opInfo ops i t = some (d1, o1)) (h2 : opInfo ops j t = some (d2, o2))
    (s1 : Step X d1 o1 t D (fun t' D' => (atAll D' ks1 = some Θ ∨ onList ds i = true) ∧ RunU X K ops Θ ds fuel li t' D'))
    (s2 : Step X d2 o2 t D (fun t' D' => (atAll D' ks2 = some Θ ∨ onList ds j = true) ∧ RunU X K ops Θ ds fuel lj t' D')) : RunU X K ops Θ ds (fuel + 1) l t D := by
  have hr : Region.ready .any ops l = [i, j] := by simpa using hr
  have hl1 : l.setIfInBounds i true = li := by simpa using hl1
  have hl2 : l.setIfInBounds j true = lj := by simpa using hl2
  subst hl1 hl2
  intro ρ a w ha hw
  have fin : ∀ (k : Nat) {d : Option Tmp} {op : Op} (ks : List Nat), opInfo ops k t = some (d, op) → Step X d op t D (fun t' D' => (atAll D' ks = some Θ ∨ onList ds k = true) ∧ RunU X K ops Θ ds fuel (l.setIfInBounds k true) t' D') →
      wpOp X.P ops (den X ρ K) k (fun a' w' => (k ∉ ds → (∀ f ∈ Θ, ∃ fp, f.P w fp) → ∀ f ∈ Θ, ∃ fp, f.P w' fp) ∧ wpU X.P ops (den X ρ K) (fun w => ∀ f ∈ Θ, ∃ fp, f.P w fp) ds fuel (l.setIfInBounds k true) a' w') a w := by
    intro k d op ks h hs
    obtain ⟨o, ho, hg, hdst, hop⟩ := opInfo_spec h
    unfold wpOp
    simp only [ho, gd_sound ha hg, if_true]
    refine .inl (hs o hdst hop ρ a w ha hw _ _ (fun t' D' a' w' h3 h4 h5 => ⟨fun hn _ => ?_, h5.2 ρ a' w' h3 h4⟩)).2
    rcases h5.1 with h6 | h6
    · exact atAll_sat h4 h6
    · exact absurd (onList_mem h6) hn
  refine ⟨fun h0 => (by rw [hr] at h0; cases h0), fun k hk => ?_⟩
  rw [hr] at hk
  rcases List.mem_cons.1 hk with rfl | hk
  · exact fin _ _ h1 s1
  · obtain rfl := List.mem_singleton.1 hk
    exact fin _ _ h2 s2
end
end Go.Proofs.Ytlibhidhfbecbaa.SL

/- Appending so many zeros: append(x, make([]T, n)...). -/
namespace Go.Proofs.Ytlibhidhfbecbaa.SL
set_option linter.unusedVariables false
set_option linter.unusedSimpArgs false
open Go
section
variable {P : Program} {w : World}
theorem zc_eq (kd : IntKind) (M : Nat) : Builtin.zeroCells (Value.int kd 0).cells M = (nums kd (List.replicate M 0)).toArray := by
  apply Array.ext'
  rw [zeroCells_num]
theorem run_zeros_none (t tn ty e : TypeId) (i : TypeInfo) (k kn : IntKind) (ht : P.underlying t = some (.slice e)) (htn : P.underlying tn = some (.int kn)) (hi : P.info? e = some i) (B : Option Addr) (n cap : Nat) (hn : n ≤ cap) :
    (Builtin.append_ #[t, tn] ty #[.slice B n cap, .int k 0]).run P w = .ok (.slice B n cap) w := by
  have hw : IntKind.i64.wrap (0 : Int) = 0 := by decide
  cases B with
  | none => simp [Builtin.append_, run_underlying ht, run_underlying htn, sizeOf, typeInfo, hi, asInt, asIntOf, hw, hn]
  | some b => simp [Builtin.append_, run_underlying ht, run_underlying htn, sizeOf, typeInfo, hi, asInt, asIntOf, hw, hn, storeCells]
theorem run_zeros_room (t tn ty e : TypeId) (i : TypeInfo) (z : Value) (k kn kd : IntKind) (ht : P.underlying t = some (.slice e)) (htn : P.underlying tn = some (.int kn)) (hi : P.info? e = some i) (hz : i.zero = some (.int kd 0)) (hs : i.size = 1)
    (g n cap M : Nat) (cur : Array Value) (hg : w.heap[g]? = some (.cells cur e (0, 0))) (hM : 0 < M) (h47 : n + M ≤ 140737488355328) (hb : M * i.bytes ≤ 140737488355328) (hroom : n + M ≤ cap) (hfit : n + M ≤ cur.size) :
    (Builtin.append_ #[t, tn] ty #[.slice (some ⟨g, 0, none⟩) n cap, .int k (M : Int)]).run P w =
      .ok (.slice (some ⟨g, 0, none⟩) (n + M) cap) (w.setRow g (cur.toList.take n ++ nums kd (List.replicate M 0) ++ cur.toList.drop (n + M)).toArray) := by
  have hw : IntKind.i64.wrap (M : Int) = M := by rw [IntKind.wrap_i64]; omega
  have hneg : ¬ ((M : Int) < 0) := by omega
  have h48 : ¬ (281474976710656 < (M : Int) * (i.bytes : Int)) := by rw [← Int.natCast_mul]; omega
  have hns : M ≠ 0 := by omega
  have hst := run_storeCells_at P g n e (nums kd (List.replicate M 0)) 0 cur w hg (by simpa [nums_length] using hfit) (nums_one _ _)
  simp only [Nat.add_zero, nums_length, List.length_replicate] at hst
  simp [Builtin.append_, run_underlying ht, run_underlying htn, sizeOf, typeInfo, zeroValue, hi, hz, hs, asInt, asIntOf, hw, hneg, h48, hns, hroom, zc_eq, Addr.add_lit, hst]
theorem run_zeros_grow (t tn ty e : TypeId) (i : TypeInfo) (k kn kd : IntKind) (ht : P.underlying t = some (.slice e)) (htn : P.underlying tn = some (.int kn)) (hi : P.info? e = some i) (hz : i.zero = some (.int kd 0)) (hs : i.size = 1)
    (b : Addr) (n cap M : Nat) (olds : List Value) (hlo : olds.length = n) (holds : ∀ j v, olds[j]? = some v → w.cell? (b.add j) = some v) (hM : 0 < M) (h47 : n + M ≤ 140737488355328) (hb : M * i.bytes ≤ 140737488355328)
    (hg : cap < n + M) (hfit : Builtin.nextslicecap (n + M) cap * i.bytes ≤ 281474976710656) :
    (Builtin.append_ #[t, tn] ty #[.slice (some b) n cap, .int k (M : Int)]).run P w =
      .ok (.slice (some ⟨w.heap.size, 0, none⟩) (n + M) (grownCap w (n + M) cap e)) (w.drew.alloc (.cells (olds.toArray ++ (nums kd (List.replicate M 0)).toArray ++ Builtin.zeroCells (Value.int kd 0).cells (grownCap w (n + M) cap e - (n + M))) e)) := by
  have hw : IntKind.i64.wrap (M : Int) = M := by rw [IntKind.wrap_i64]; omega
  have hneg : ¬ ((M : Int) < 0) := by omega
  have h48 : ¬ (281474976710656 < (M : Int) * (i.bytes : Int)) := by rw [← Int.natCast_mul]; omega
  have hns : M ≠ 0 := by omega
  have hn : ¬ (n + M ≤ cap) := by omega
  have h63 : ¬ (9223372036854775807 < ((n : Int) + (M : Int))) := by omega
  have h48' : ¬ (281474976710656 < Builtin.nextslicecap (n + M) cap * i.bytes) := by omega
  have hfo := run_firstCells_some (P := P) w.drew i.size n b n cap olds (by rw [hs]; omega) (by simpa using holds)
  rw [hs] at hfo
  simp [Builtin.append_, run_underlying ht, run_underlying htn, sizeOf, typeInfo, zeroValue, hi, hz, hs, asInt, asIntOf, hw, hneg, h48, hns, hn, h63, h48', Question.forced, hfo, newRow, grownCap, zc_eq]
end
section
variable {X : Cx} {U : Tab} (hU : U.OK X.P) {t : Env} {D : List Fact} {φ : Env → List Fact → Prop}
include hU
theorem Step.append_zeros {d : Nat} {ty tn : TypeId} {x y : Operand} (e by_ : Nat) (kd kn ki : IntKind) (k0 : Nat) (B : Option Addr) (n cap : Nat) (xs : List Int) (m : Int)
    (hty : look U.und ty = some (.slice e)) (htn : look U.und tn = some (.int kn)) (hti : look U.ti e = some (1, by_, .int kd 0))
    (hx : ev t x = some (.slice B n cap)) (hy : ev t y = some (.int ki m)) (hD : D[k0]? = some (row e 1 (.slice B n cap) n (nums kd xs)))
    (hn : n = xs.length) (h0 : 0 ≤ m) (h63 : (xs.length : Int) + m ≤ 140737488355328) (hb : ((xs.length : Int) + m) * by_ ≤ 140737488355328) (hd : Nat.ble (d + 1) X.N = true)
    (k : ∀ B' cap', (xs ++ List.replicate m.toNat 0).length ≤ cap' → (0 < (xs ++ List.replicate m.toNat (0 : Int)).length → B'.isSome = true) → φ (put t d (.slice B' (xs ++ List.replicate m.toNat (0 : Int)).length cap')) (row e 1 (.slice B' (xs ++ List.replicate m.toNat (0 : Int)).length cap') (xs ++ List.replicate m.toNat (0 : Int)).length (nums kd (xs ++ List.replicate m.toNat 0)) :: D.eraseIdx k0)) :
    Step X (some d) (.call { callee := .builtin .append, args := #[x, y], argTypes := #[ty, tn] }) t D φ := by
  subst hn
  obtain ⟨M, rfl⟩ := Int.eq_ofNat_of_zero_le h0
  simp only [Int.toNat_natCast] at k
  have hlen : (xs ++ List.replicate M (0 : Int)).length = xs.length + M := by simp
  rw [hlen] at k
  intro o hdst hop ρ a w ha hw Q K hK
  obtain ⟨i, hi, h1', h2', h3⟩ := hU.ti _ (look_mem hti)
  simp only at hi h1' h2' h3
  subst h2'
  have hb2 : (xs.length + M) * i.bytes ≤ 140737488355328 := by
    have : (((xs.length + M) * i.bytes : Nat) : Int) ≤ 140737488355328 := by rw [Int.natCast_mul, Int.natCast_add]; exact hb
    omega
  have hbM : M * i.bytes ≤ 140737488355328 := Nat.le_trans (Nat.mul_le_mul_right _ (by omega)) hb2
  have ht := hU.und _ (look_mem hty)
  have htn' := hU.und _ (look_mem htn)
  simp only at ht htn'
  have hw' := hw.pull hD
  obtain ⟨fpr, hc0, hbd, hform⟩ := hw'.head
  have fin : ∀ (B' : Option Addr) (cap' : Nat) (w' : World), (Builtin.append_ #[ty, tn] o.type #[.slice B xs.length cap, .int ki (M : Int)]).run X.P w = .ok (.slice B' (xs.length + M) cap') w' → SAT ρ.w0 ρ.W (row e 1 (.slice B' (xs.length + M) cap') (xs.length + M) (nums kd (xs ++ List.replicate M 0)) :: D.eraseIdx k0) w' →
      (0 < xs.length + M → B'.isSome = true) → wp2 X o a w K Q := by
    intro B' cap' w' hrun hsat hv'
    have hr : (execOp a.eval o).run X.P w = .ok (.value (.slice B' (xs.length + M) cap')) w' := by
      unfold execOp
      simp only [hop, resolve, invoke, builtin, Sem.run_bind, Sem.run_pure, Result.andThen_ok, List.map_toArray, List.map_cons, List.map_nil, ha.ev hx, ha.ev hy, hrun]
    have hcap : xs.length + M ≤ cap' := by
      obtain ⟨A', c', hv, hn, _⟩ := row_form hsat
      injection hv with _ _ hc
      rw [hc]; exact hn
    refine wp_val hr (hK _ _ _ _ ?_ hsat (k B' cap' hcap hv'))
    rw [hdst]
    exact ha.put (Nat.le_of_ble_eq_true hd) _
  have grown : ∀ (old : Nat), SAT ρ.w0 ρ.W (row e 1 (.slice (some ⟨w.heap.size, 0, none⟩) (xs.length + M) (grownCap w (xs.length + M) old e)) (xs.length + M) (nums kd (xs ++ List.replicate M 0)) :: D.eraseIdx k0)
      (w.drew.alloc (.cells ((nums kd xs).toArray ++ (nums kd (List.replicate M 0)).toArray ++ Builtin.zeroCells (Value.int kd 0).cells (grownCap w (xs.length + M) old e - (xs.length + M))) e)) := by
    intro old
    have hge := grownCap_ge w (xs.length + M) old e
    have hcm := grownCap_le_maxLen w (xs.length + M) old e (by simp only [maxLen]; omega)
    have hs := hw'.tail.drew.alloc (.cells ((nums kd xs).toArray ++ (nums kd (List.replicate M 0)).toArray ++ Builtin.zeroCells (Value.int kd 0).cells (grownCap w (xs.length + M) old e - (xs.length + M))) e)
      (blk w.drew.heap.size e (nums kd (xs ++ List.replicate M 0) ++ nums kd (List.replicate (grownCap w (xs.length + M) old e - (xs.length + M)) 0))) rfl (by
        have e1 : ((nums kd xs).toArray ++ (nums kd (List.replicate M 0)).toArray ++ Builtin.zeroCells (Value.int kd 0).cells (grownCap w (xs.length + M) old e - (xs.length + M))) = (nums kd (xs ++ List.replicate M 0) ++ nums kd (List.replicate (grownCap w (xs.length + M) old e - (xs.length + M)) 0)).toArray := by
          rw [zc_eq]; simp [nums]
        rw [e1]
        exact blk_new w.drew e _)
    have h4 := SAT.row_of_blk (s := 1) (n := xs.length + M) (cap := grownCap w (xs.length + M) old e) hs hge hcm (by rw [List.length_append, nums_length, nums_length, hlen, List.length_replicate]; omega)
    rwa [show (nums kd (xs ++ List.replicate M 0) ++ nums kd (List.replicate (grownCap w (xs.length + M) old e - (xs.length + M)) 0)).take ((xs.length + M) * 1) = nums kd (xs ++ List.replicate M 0) by rw [Nat.mul_one, ← hlen, ← nums_length kd, List.take_left]] at h4
  rw [nums_length, Nat.mul_one] at hc0
  by_cases hM : M = 0
  · subst hM
    simp only [List.replicate_zero, List.append_nil, Nat.add_zero] at fin
    rcases hform with ⟨hv, hl⟩ | ⟨b, cap', ex, hv, hh, hnc, hcm, hex, hfp⟩
    · injection hv with h1 h2 h3'
      subst h1; subst h3'
      exact fin none 0 w (run_zeros_none ty tn o.type e i ki kn ht htn' hi none _ 0 (by omega)) hw' (fun h => by omega)
    · injection hv with h1 h2 h3'
      subst h1; subst h3'
      exact fin _ _ w (run_zeros_none ty tn o.type e i ki kn ht htn' hi _ _ _ hnc) hw' (fun _ => rfl)
  · rcases hform with ⟨hv, hl⟩ | ⟨b, cap', ex, hv, hh, hnc, hcm, hex, hfp⟩
    · injection hv with h1 h2 h3'
      subst h1; subst h3'
      obtain rfl : xs = [] := List.eq_nil_of_length_eq_zero h2
      have hr := Go.Lib.run_append_nil_zeros (P := X.P) w ty tn o.type e i (.int kd 0) ki kn ht htn' hi h3 M (by omega) (by omega) (by omega) (by omega)
      refine fin _ _ _ ?_ (grown 0) (fun _ => rfl)
      simpa [nums, zc_eq] using hr
    · injection hv with h1 h2 h3'
      subst h1; subst h3'
      by_cases hroom : xs.length + M ≤ cap
      · have hfit : xs.length + M ≤ (nums kd xs ++ ex).toArray.size := by rw [List.size_toArray, hex]; omega
        have hr := run_zeros_room (P := X.P) (w := w) ty tn o.type e i (.int kd 0) ki kn kd ht htn' hi h3 h1' b xs.length cap M (nums kd xs ++ ex).toArray hh (by omega) (by omega) hbM hroom hfit
        refine fin _ cap _ hr ?_ (fun _ => rfl)
        have hexl : ex.length = cap - xs.length := by
          have := hex
          rw [List.length_append, nums_length] at this
          omega
        have e1 : List.take xs.length (nums kd xs ++ ex).toArray.toList ++ nums kd (List.replicate M 0) ++ List.drop (xs.length + M) (nums kd xs ++ ex).toArray.toList = nums kd (xs ++ List.replicate M 0) ++ ex.drop M := by
          have l1 := nums_length kd xs
          rw [show (nums kd xs ++ ex).toArray.toList = nums kd xs ++ ex from rfl, List.take_append_of_le_length (by omega), List.take_of_length_le (by omega), List.drop_append, List.drop_of_length_le (by omega), l1, show xs.length + M - xs.length = M by omega, List.nil_append, nums_append]
        rw [e1]
        refine hw'.change rfl _ rfl rfl rfl rfl (by simp) (fun fp hp' => ?_)
        have hfp' : ∀ x, fp x ↔ x = b := by
          rcases hp'.2.2 with ⟨hv, _⟩ | ⟨b', cap', ex', hv, _, _, _, _, h6⟩
          · cases hv
          · injection hv with hv
            injection hv with hv
            injection hv with hv
            subst hv
            exact h6
        refine ⟨fun x hx => setRow_other w b x _ (fun e => hx ((hfp' x).2 e)), ⟨by rw [nums_length, hlen]; omega, fun x hx => ?_, .inr ⟨b, cap, ex.drop M, rfl, setRow_heap w b _ _ e _ hh, hroom, hcm, ?_, hfp'⟩⟩⟩
        · have := hp'.2.1 x hx; simpa using this
        · rw [List.length_append, nums_length, hlen, List.length_drop, hexl]; omega
      · have holds : ∀ j u, (nums kd xs)[j]? = some u → w.cell? ((⟨b, 0, none⟩ : Addr).add j) = some u := fun j u hu => by
          rw [Addr.add_mid, cell_of_row w b _ _ e _ hh]
          simp only [Nat.zero_add, List.getElem?_toArray]
          rw [List.getElem?_append_left (List.getElem?_eq_some_iff.1 hu).1]
          exact hu
        have hr := run_zeros_grow (P := X.P) (w := w) ty tn o.type e i ki kn kd ht htn' hi h3 h1' ⟨b, 0, none⟩ xs.length cap M (nums kd xs) (nums_length _ _) holds (by omega) (by omega) hbM (by omega) (growslice_fits (by omega) hb2)
        exact fin _ _ _ hr (grown cap) (fun _ => rfl)
end
end Go.Proofs.Ytlibhidhfbecbaa.SL

/- Blocks of numbers, two at a time: the elements of an array of structs of two numbers. -/
namespace Go.Proofs.Ytlibhidhfbecbaa.SL
set_option linter.unusedVariables false
set_option linter.unusedSimpArgs false
open Go
theorem cut2 {α : Type} [Inhabited α] (xs : List α) (o : Nat) (h : o + 2 ≤ xs.length) (d : α) : xs = xs.take o ++ ([xs.getD o d, xs.getD (o + 1) d] ++ xs.drop (o + 2)) := by
  conv => lhs; rw [← List.take_append_drop o xs, List.drop_eq_getElem_cons (by omega), List.drop_eq_getElem_cons (by omega)]
  rw [List.getD_eq_getElem?_getD, List.getElem?_eq_getElem (by omega), List.getD_eq_getElem?_getD, List.getElem?_eq_getElem (by omega)]
  rfl
theorem Seg.pair {k : IntKind} {xs : List Int} {o : Nat} (h : o + 2 ≤ xs.length) : Seg (nums k xs) o [.int k (xs.getD o 0), .int k (xs.getD (o + 1) 0)] := by
  refine ⟨nums k (xs.take o), nums k (xs.drop (o + 2)), ?_, by rw [nums_length, List.length_take]; omega⟩
  conv => lhs; rw [cut2 xs o h 0]
  simp [nums]
theorem set_pair (xs : List Int) (o : Nat) (h : o + 2 ≤ xs.length) (a b : Int) : (xs.set o a).set (o + 1) b = xs.take o ++ [a, b] ++ xs.drop (o + 2) := by
  rw [List.set_eq_take_append_cons_drop, if_pos (by rw [List.length_set]; omega), List.set_eq_take_append_cons_drop, if_pos (by omega)]
  simp [List.take_append, List.drop_append, List.length_take, Nat.min_eq_left (show o ≤ xs.length by omega)]
  rw [show o + 1 + 1 - o = 2 by omega, List.take_of_length_le (by rw [List.length_take]; omega), List.drop_of_length_le (by rw [List.length_take]; omega)]
  simp
theorem Put.pair {k : IntKind} {xs : List Int} {o : Nat} {a b : Int} (h : o + 2 ≤ xs.length) : Put (Go.Proofs.Ytlibhidhfbecbaa.SL.nums k xs) o [.int k a, .int k b] (Go.Proofs.Ytlibhidhfbecbaa.SL.nums k ((xs.set o a).set (o + 1) b)) := by
  refine ⟨?_, by simp [nums_length]; omega⟩
  rw [set_pair _ _ h]
  simp [wr, Go.Proofs.Ytlibhidhfbecbaa.SL.nums]
theorem kloop_nt {K : Post} {t : Env} {D : List Fact} {σ : Type} {I : σ → Env → List Fact → Prop} {m : σ → Nat} {s : σ} (D2 : List Fact) (h2 : ∀ w0 W w, SAT w0 W D w → SAT w0 W D2 w) (s' : σ) (keep ks : List Nat) (t' : Env) (D' : List Fact) (ht : pick t keep = t') (hD : (pulls ks D2).1 = D') (hm : m s' < m s) (h : I s' t' D') : kloop I m s K .normal t D :=
  ⟨s', hm, t', D', fun p hp => by subst ht; exact pick_mem hp, fun w0 W w hs => (h2 w0 W w hs).sel ks D' hD, h⟩
structure Bnd (a b : Int) (xs : List Int) : Prop where
  lo : a ≤ 0
  hi : 0 < b
  all : ∀ x ∈ xs, a ≤ x ∧ x < b
theorem Bnd.at_ {a b : Int} {xs : List Int} (h : Bnd a b xs) (i : Nat) : a ≤ xs.getD i 0 ∧ xs.getD i 0 < b := by
  rw [List.getD_eq_getElem?_getD]
  rcases Nat.lt_or_ge i xs.length with hi | hi
  · rw [List.getElem?_eq_getElem hi]; exact h.all _ (List.getElem_mem hi)
  · rw [List.getElem?_eq_none hi]; exact ⟨h.lo, h.hi⟩
theorem Bnd.set {a b : Int} {xs : List Int} (h : Bnd a b xs) (i : Nat) {v : Int} (hv : a ≤ v ∧ v < b) : Bnd a b (xs.set i v) :=
  ⟨h.lo, h.hi, fun x hx => by
    rcases List.mem_or_eq_of_mem_set hx with hx | rfl
    · exact h.all x hx
    · exact hv⟩
theorem Bnd.snoc {a b : Int} {xs : List Int} (h : Bnd a b xs) {v : Int} (hv : a ≤ v ∧ v < b) : Bnd a b (xs ++ [v]) :=
  ⟨h.lo, h.hi, fun x hx => by
    rcases List.mem_append.1 hx with hx | hx
    · exact h.all x hx
    · rw [List.mem_singleton] at hx; rw [hx]; exact hv⟩
theorem Bnd.nil {a b : Int} (h : a ≤ 0) (h' : 0 < b) : Bnd a b [] := ⟨h, h', fun x hx => by cases hx⟩
end Go.Proofs.Ytlibhidhfbecbaa.SL
