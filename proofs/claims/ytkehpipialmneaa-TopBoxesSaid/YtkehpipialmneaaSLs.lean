/- What a datum's walk tells of its cells, with how much it may weigh; rows of rows. -/
import Derived.Test.YtkehpipialmneaaSLz
import Derived.Test.YtkehpipialmneaaSLq
namespace Go.Proofs.Ytkehpipialmneaa.SL
set_option linter.unusedVariables false
set_option linter.unusedSimpArgs false
open Go Go.ChangeShapes Go.WideShapes

section
variable {H : Type} {enc : TypeId × Value → H} {P : Program} {w : World}

def OpenW (enc : TypeId × Value → H) (P : Program) (w : World) (t : TypeId) (R : List Value → Prop) : Prop :=
  ∀ fuel cs x, DataW.trod enc P w 0 (fun _ => true) true fuel t cs = some x → (∀ n ∈ DataW.weights P t x.1, n ≤ reachBytes) → R cs
theorem Opens.toW {t : TypeId} {R : List Value → Prop} (h : Opens enc P w 0 (fun _ => true) true t R) : OpenW enc P w t R := fun fuel cs x hx _ => h fuel cs x hx

theorem weightsAll_mem {e : TypeId} {d : DataW H} : ∀ {ds : List (DataW H)}, d ∈ ds → ∀ n ∈ DataW.weights P e d, n ∈ DataW.weightsAll P e ds
  | d0 :: ds, h, n, hn => by
    rw [DataW.weightsAll, List.mem_append]
    rcases List.mem_cons.1 h with rfl | h
    · exact .inl hn
    · exact .inr (weightsAll_mem h n hn)

/-- An element of cells of one length each. -/
theorem flat_get {c : Nat} (hc : 0 < c) : ∀ {css : List (List Value)}, (∀ x ∈ css, x.length = c) → ∀ j, css.flatten[j]? = (css[j / c]?).bind (·[j % c]?)
  | [], _, j => by simp
  | x :: css, h, j => by
    have hx := h x List.mem_cons_self
    rw [List.flatten_cons]
    by_cases hj : j < c
    · rw [List.getElem?_append_left (by omega), Nat.div_eq_of_lt hj, Nat.mod_eq_of_lt hj]
      rfl
    · rw [List.getElem?_append_right (by omega), flat_get hc (fun y hy => h y (List.mem_cons_of_mem _ hy)), hx]
      have e1 : j / c = (j - c) / c + 1 := by rw [← Nat.div_eq_sub_div hc (by omega)]
      have e2 : (j - c) % c = j % c := (Nat.mod_eq_sub_mod (by omega)).symm
      rw [e1, e2, List.getElem?_cons_succ]

theorem mapM_get {α β : Type} {f : α → Option β} : ∀ {L : List α} {ys : List β}, L.mapM f = some ys → ∀ (i : Nat) (y : β), ys[i]? = some y → ∃ a, L[i]? = some a ∧ f a = some y
  | [], ys, h, i, y, hy => by simp at h; subst h; simp at hy
  | a :: L, ys, h, i, y, hy => by
    rw [List.mapM_cons] at h
    simp only [bind, Option.bind_eq_some_iff, pure, Option.some.injEq] at h
    obtain ⟨z, hz, zs, hzs, rfl⟩ := h
    cases i with
    | zero => simp at hy; subst hy; exact ⟨a, rfl, hz⟩
    | succ i => simp at hy; exact mapM_get hzs i y hy

theorem cells_get {w : World} {base : Nat} {a : Addr} {n : Nat} {cs : List Value} (h : w.cells? base a n = some cs) : cs.length = n ∧ ∀ j v, cs[j]? = some v → w.cell? (a.add j) = some v := by
  unfold World.cells? at h
  split at h
  · have h1 := (mapM_all h).1
    refine ⟨by simpa using h1, fun j v hv => ?_⟩
    obtain ⟨i, hi, hf⟩ := mapM_get h j v hv
    rw [List.getElem?_range (by have := (List.getElem?_eq_some_iff.1 hi).1; simpa using this)] at hi
    cases hi
    exact hf
  · cases h

theorem exists_list {α : Type} (Q : Nat → α → Prop) : ∀ n, (∀ i, i < n → ∃ r, Q i r) → ∃ rs : List α, rs.length = n ∧ ∀ i r, rs[i]? = some r → Q i r
  | 0, _ => ⟨[], rfl, fun i r h => by simp at h⟩
  | n + 1, h => by
    obtain ⟨rs, h1, h2⟩ := exists_list Q n (fun i hi => h i (by omega))
    obtain ⟨r, hr⟩ := h n (by omega)
    refine ⟨rs ++ [r], by simp [h1], fun i x hx => ?_⟩
    by_cases hi : i < rs.length
    · rw [List.getElem?_append_left hi] at hx
      exact h2 i x hx
    · rw [List.getElem?_append_right (by omega)] at hx
      have : i - rs.length = 0 := by have := (List.getElem?_eq_some_iff.1 hx).1; simp at this; omega
      rw [this] at hx
      cases hx
      rw [show i = n by omega]
      exact hr

theorem openw_slice {t e : TypeId} {c B : Nat} {R : List Value → Prop} (h : P.underlying t = some (.slice e)) (hc : P.cellsOf e = c) (hB : P.bytesOf e = B) (h0 : 0 < c) (hR : OpenW enc P w e R) :
    OpenW enc P w t (fun cs => ∃ (a : Option Addr) (len cap : Nat) (css : List (List Value)), cs = [.slice a len cap] ∧ css.length = len ∧ len ≤ cap ∧ len * B ≤ 140737488351232 ∧ (∀ x ∈ css, x.length = c ∧ R x) ∧
      (0 < css.flatten.length → ∃ y, a = some y ∧ y.spot = none ∧ ∀ j v, css.flatten[j]? = some v → w.cell? (y.add j) = some v)) := fun fuel cs x hx hw => by
  rcases DataW.trod_slice h hx with ⟨rfl, _⟩ | ⟨a, len, cap, elems, rest, n, _, rfl, rfl, hb, hl, hm, hlen, hel, hsp, hns⟩
  · exact ⟨none, 0, 0, [], rfl, rfl, Nat.le_refl _, by omega, fun x hx => (by cases hx), fun h => by simp at h⟩
  · subst hc
    have each : ∀ i, i < len → ∃ x : List Value, x.length = P.cellsOf e ∧ R x ∧ ∀ j v, x[j]? = some v → w.cell? ((a.add (i * P.cellsOf e)).add j) = some v := fun i hi => by
      have hy : elems[i]? = some (elems[i]'(by omega)) := List.getElem?_eq_getElem (by omega)
      have h1 := hel i hi
      rw [hy, Option.bind_eq_some_iff] at h1
      obtain ⟨cs, hcs, htr⟩ := h1
      obtain ⟨h2, h3⟩ := cells_get hcs
      refine ⟨cs, h2, hR _ _ _ htr (fun m hm => hw m ?_), h3⟩
      simp only [DataW.weights, h, List.mem_cons, List.mem_append]
      exact .inr (.inl (weightsAll_mem (List.mem_map.2 ⟨_, List.getElem_mem _, rfl⟩) m hm))
    obtain ⟨css, h4, h5⟩ := exists_list (fun i x => x.length = P.cellsOf e ∧ R x ∧ ∀ j v, x[j]? = some v → w.cell? ((a.add (i * P.cellsOf e)).add j) = some v) len each
    have hall : ∀ x ∈ css, x.length = P.cellsOf e ∧ R x := fun x hx => by
      obtain ⟨i, hi⟩ := List.getElem?_of_mem hx
      exact ⟨(h5 i x hi).1, (h5 i x hi).2.1⟩
    have hbnd : len * B ≤ 140737488351232 := by
      have := hw ((elems.map (·.1)).length * P.bytesOf e + (rest.map (·.1)).length * P.bytesOf e) (by simp only [DataW.weights, h, List.mem_cons]; left; rw [Nat.add_mul])
      simp only [List.length_map, hlen, hB] at this
      have e : reachBytes = 140737488351232 := by decide
      omega
    have hspot : 0 < css.flatten.length → a.spot = none := fun hp => by
      have hg : css.flatten[0]? = some (css.flatten[0]) := List.getElem?_eq_getElem hp
      rw [flat_get h0 (fun x hx => (hall x hx).1), Option.bind_eq_some_iff] at hg
      obtain ⟨x, h6, h7⟩ := hg
      have h8 := (h5 _ x h6).2.2 _ _ h7
      simp only [Nat.zero_div, Nat.zero_mul, Nat.zero_mod, Addr.add, if_true] at h8
      simp only [World.cell?] at h8
      cases hs : a.spot with
      | none => rfl
      | some s => rw [hs] at h8; split at h8 <;> simp_all
    refine ⟨some a, len, cap, css, rfl, h4, hl, hbnd, hall, fun hp => ⟨a, rfl, hspot hp, fun j v hv => ?_⟩⟩
    rw [flat_get h0 (fun x hx => (hall x hx).1), Option.bind_eq_some_iff] at hv
    obtain ⟨x, h6, h7⟩ := hv
    have h8 := (h5 _ x h6).2.2 _ _ h7
    rw [add_add _ _ _ (hspot hp)] at h8
    rwa [show j / P.cellsOf e * P.cellsOf e + j % P.cellsOf e = j by rw [Nat.mul_comm]; exact Nat.div_add_mod _ _] at h8

/-- A row of numbers that can be read. -/
def Told (k : IntKind) (w : World) (a : Option Addr) (xs : List Int) : Prop := 0 < (nums k xs).length → ∃ x, a = some x ∧ ∀ j v, (nums k xs)[j]? = some v → w.cell? (x.add j) = some v
theorem openw_ints {t e : TypeId} {k : IntKind} {B : Nat} (h : P.underlying t = some (.slice e)) (he : P.underlying e = some (.int k)) (hc : P.cellsOf e = 1) (hB : P.bytesOf e = B) :
    OpenW enc P w t (fun cs => ∃ (a : Option Addr) (len cap : Nat) (xs : List Int), cs = [.slice a len cap] ∧ xs.length = len ∧ len ≤ cap ∧ len * B ≤ 140737488351232 ∧ In k xs ∧ Told k w a xs) := fun fuel cs x hx hw => by
  obtain ⟨a, len, cap, css, rfl, h1, h2, h3, h4, h5⟩ := openw_slice h hc hB (by omega) (Opens.toW (opens_int he)) fuel cs x hx hw
  obtain ⟨xs, h6, h7, h8⟩ := flat_nums (k := k) (css := css) (fun x hx => (h4 x hx).2)
  refine ⟨a, len, cap, xs, rfl, by omega, h2, h3, h8, fun hp => ?_⟩
  obtain ⟨y, h9, _, h10⟩ := h5 (by rw [h7]; exact hp)
  exact ⟨y, h9, fun j v hv => h10 j v (by rw [h7]; exact hv)⟩

/-! ### Rows of rows -/
abbrev Ro := Option Addr × Nat × List Int
def rowsV (rs : List Ro) : List Value := rs.map fun r => .slice r.1 r.2.2.length r.2.1
def RowsOK (k : IntKind) (rs : List Ro) : Prop := ∀ r ∈ rs, In k r.2.2 ∧ r.2.2.length ≤ r.2.1 ∧ r.2.2.length ≤ 140737488351232
theorem rowsV_len (rs : List Ro) : (rowsV rs).length = rs.length := List.length_map _
theorem row_at {k : IntKind} {rs : List Ro} (h : RowsOK k rs) {i : Nat} (hi : i < rs.length) : ∃ A c xs, rs[i]? = some (A, c, xs) ∧ In k xs ∧ xs.length ≤ c ∧ xs.length ≤ 140737488351232 := by
  obtain ⟨A, c, xs⟩ : Ro := rs[i]
  have := h (rs[i]) (List.getElem_mem hi)
  exact ⟨rs[i].1, rs[i].2.1, rs[i].2.2, List.getElem?_eq_getElem hi, this⟩
theorem openw_rows {t e e2 : TypeId} {k : IntKind} {B : Nat} (h : P.underlying t = some (.slice e)) (hc : P.cellsOf e = 1) (hB : P.bytesOf e = B) (he : P.underlying e = some (.slice e2)) (he2 : P.underlying e2 = some (.int k)) (hc2 : P.cellsOf e2 = 1) (hb2 : P.bytesOf e2 = 1) :
    OpenW enc P w t (fun cs => ∃ (a : Option Addr) (len cap : Nat) (rs : List Ro), cs = [.slice a len cap] ∧ rs.length = len ∧ len ≤ cap ∧ len * B ≤ 140737488351232 ∧ RowsOK k rs ∧
      (0 < (rowsV rs).length → ∃ y, a = some y ∧ ∀ j v, (rowsV rs)[j]? = some v → w.cell? (y.add j) = some v) ∧ ∀ r ∈ rs, Told k w r.1 r.2.2) := fun fuel cs x hx hw => by
  obtain ⟨a, len, cap, css, rfl, h1, h2, h3, h4, h5⟩ := openw_slice h hc hB (by omega) (openw_ints he he2 hc2 hb2) fuel cs x hx hw
  have each : ∀ i, i < css.length → ∃ r : Ro, css[i]? = some [.slice r.1 r.2.2.length r.2.1] ∧ In k r.2.2 ∧ r.2.2.length ≤ r.2.1 ∧ r.2.2.length ≤ 140737488351232 ∧ Told k w r.1 r.2.2 := fun i hi => by
    obtain ⟨_, a2, len2, cap2, xs, h6, h7, h8, h9, h10, h11⟩ := h4 _ (List.getElem_mem hi)
    exact ⟨(a2, cap2, xs), by rw [List.getElem?_eq_getElem hi, h6, ← h7], h10, by simp only; omega, by simp only; omega, h11⟩
  obtain ⟨rs, h6, h7⟩ := exists_list _ css.length each
  have hfl : css.flatten = rowsV rs := by
    have hcs : css = rs.map fun r => [.slice r.1 r.2.2.length r.2.1] := by
      apply List.ext_getElem?
      intro i
      rw [List.getElem?_map]
      by_cases hi : i < rs.length
      · have hg : rs[i]? = some rs[i] := List.getElem?_eq_getElem hi
        rw [(h7 i _ hg).1, hg]
        rfl
      · rw [List.getElem?_eq_none (by omega), List.getElem?_eq_none (by omega)]
        rfl
    rw [hcs, rowsV]
    generalize rs = L
    induction L with
    | nil => rfl
    | cons r L ih => simp only [List.map_cons, List.flatten_cons, ih]; rfl
  refine ⟨a, len, cap, rs, rfl, by omega, h2, h3, fun r hr => ?_, fun hp => ?_, fun r hr => ?_⟩
  · obtain ⟨i, hi⟩ := List.getElem?_of_mem hr
    exact ⟨(h7 i r hi).2.1, (h7 i r hi).2.2.1, (h7 i r hi).2.2.2.1⟩
  · obtain ⟨y, h9, _, h10⟩ := h5 (by rw [hfl]; exact hp)
    exact ⟨y, h9, fun j v hv => h10 j v (by rw [hfl]; exact hv)⟩
  · obtain ⟨i, hi⟩ := List.getElem?_of_mem hr
    exact (h7 i r hi).2.2.2.2
end

/-- Many rows that can be read. -/
def vws (L : List (Option Addr × List Value)) : Fact where
  own := false
  P := fun w fp => (∀ x, fp x → x < w.heap.size) ∧ ∀ r ∈ L, 0 < r.2.length → ∃ a, r.1 = some a ∧ fp a.block ∧ ∀ j v, r.2[j]? = some v → w.cell? (a.add j) = some v
  loc := fun h hl => ⟨fun x hx => lt_of_heap (h.1 x hx) (hl x hx), fun r hr hp => by
    obtain ⟨a, h1, h2, h4⟩ := h.2 r hr hp
    exact ⟨a, h1, h2, fun j v hv => by rw [← h4 j v hv]; exact World.cell?_of_block (by rw [add_block]; exact hl _ h2)⟩⟩
  bnd := fun h b hb => h.1 b hb
theorem tells_vws {L : List (Option Addr × List Value)} {A : Option Addr} {us : List Value} (h : (A, us) ∈ L) : Tells (vws L) A us := fun w fp hp => ⟨fp, fun _ hb => hb, hp.1, fun h0 => hp.2 _ h h0⟩
def rowsL (k : IntKind) (rs : List Ro) : List (Option Addr × List Value) := rs.map fun r => (r.1, nums k r.2.2)
theorem tells_rows {k : IntKind} {rs : List Ro} {i c : Nat} {A : Option Addr} {xs : List Int} (h : rs[i]? = some (A, c, xs)) : Tells (vws (rowsL k rs)) A (nums k xs) :=
  tells_vws (List.mem_map.2 ⟨(A, c, xs), List.mem_of_getElem? h, rfl⟩)
theorem loadv_row {U : Tab} {ty : TypeId} {rs : List Ro} {i o c : Nat} {A : Option Addr} {xs : List Int} (hty : isRowTy U ty = some false) (h : rs[i]? = some (A, c, xs)) (ho : o = i) : loadv U ty (rowsV rs) o = some (.slice A xs.length c) := by
  subst ho
  unfold loadv
  rw [hty]
  simp only [rowsV, List.getElem?_map, h]
  rfl
theorem SAT.args {w : World} {D : List Fact} (h : SAT w (fun _ => False) D w) (k : IntKind) (rs : List Ro) (hc : ∀ r ∈ rs, Told k w r.1 r.2.2) : SAT w (fun _ => False) (vws (rowsL k rs) :: D) w := by
  obtain ⟨fr, O, R, h1, h2, h3, h4⟩ := h
  have hO : ∀ b, ¬ O b := fun b hb => by
    rcases h3 b hb with h | h
    · have := h4 b (.inl hb); omega
    · exact h
  refine ⟨fr, O, fun b => b < w.heap.size, ⟨fun b => b < w.heap.size, ⟨fun _ h => h, fun r hr hp => ?_⟩, fun _ h => h, sat_mono h1 (fun _ h => h) (fun b hb => h4 b (.inr hb))⟩, fun b hb => absurd hb (hO b), h3, fun b hb => hb.elim (fun h => absurd h (hO b)) id⟩
  obtain ⟨r0, hr0, rfl⟩ := List.mem_map.1 hr
  obtain ⟨a, hA, hcell⟩ := hc r0 hr0 hp
  refine ⟨a, hA, ?_, hcell⟩
  have := hcell 0 (nums k r0.2.2)[0] (by simp)
  have := World.block_lt_of_cell? w _ this
  rwa [add_block] at this
end Go.Proofs.Ytkehpipialmneaa.SL
