/- Rows: made, grown, copied; facts turned into one another; calls and contracts. -/
import Derived.Test.YtjhinpmnpdgadaaDoorSLe
namespace Go.Proofs.YtjhinpmnpdgadaaDoor.SL
set_option linter.unusedVariables false
set_option linter.unusedSimpArgs false
open Go

section
variable {w0 : World} {W : FP} {D : List Fact} {w : World}

/-! ### Facts turned -/
theorem SAT.row_of_blk {b T s n cap : Nat} {cs : List Value} (h : SAT w0 W (blk b T cs :: D) w) (hn : n ≤ cap) (hc : cap ≤ maxLen) (hl : cs.length = cap * s) : SAT w0 W (row T s (.slice (some ⟨b, 0, none⟩) n cap) n (cs.take (n * s)) :: D) w := by
  refine h.turn _ rfl (fun fp hp => ⟨?_, fun x hx => (blk b T cs).bnd hp x hx, .inr ⟨b, cap, cs.drop (n * s), rfl, by rw [List.take_append_drop]; exact hp.1, hn, hc, by rw [List.take_append_drop]; exact hl, hp.2⟩⟩)
  rw [List.length_take, hl]
  exact Nat.min_eq_left (Nat.mul_le_mul_right _ hn)

/-- A row that has an element is a block. -/
theorem row_open {T s n : Nat} {v : Value} {cs : List Value} (h : SAT w0 W (row T s v n cs :: D) w) (hn : 0 < n) :
    ∃ b cap ex, v = .slice (some ⟨b, 0, none⟩) n cap ∧ n ≤ cap ∧ cap ≤ maxLen ∧ (cs ++ ex).length = cap * s ∧ SAT w0 W (blk b T (cs ++ ex) :: D) w := by
  obtain ⟨fp, _, _, h1⟩ := h.head
  rcases h1 with ⟨_, h1⟩ | ⟨b, cap, ex, rfl, h2, h3, h4, h5, h6⟩
  · omega
  · refine ⟨b, cap, ex, rfl, h3, h4, h5, h.turn _ rfl (fun fp hp => ?_)⟩
    rcases hp.2.2 with ⟨hv, _⟩ | ⟨b', cap', ex', hv, h2', _, _, _, h6'⟩
    · cases hv
    · injection hv with hv1 _ hv3
      injection hv1 with hv1
      injection hv1 with hv1
      subst hv1
      exact ⟨h2, h6'⟩

theorem row_len {T s n : Nat} {v : Value} {cs : List Value} (h : SAT w0 W (row T s v n cs :: D) w) : cs.length = n * s ∧ n ≤ maxLen := by
  obtain ⟨fp, h0, _, h1⟩ := h.head
  refine ⟨h0, ?_⟩
  rcases h1 with ⟨_, rfl⟩ | ⟨b, cap, ex, _, _, h3, h4, _⟩
  · exact Nat.zero_le _
  · omega

theorem row_form {T s n : Nat} {v : Value} {cs : List Value} (h : SAT w0 W (row T s v n cs :: D) w) : ∃ A cap, v = .slice A n cap ∧ n ≤ cap ∧ (0 < n → A.isSome = true) := by
  obtain ⟨fp, h0, _, h1⟩ := h.head
  rcases h1 with ⟨rfl, rfl⟩ | ⟨b, cap, ex, rfl, _, h3, h4, _⟩
  · exact ⟨none, 0, rfl, Nat.le_refl _, fun h => by omega⟩
  · exact ⟨_, cap, rfl, h3, fun _ => rfl⟩

/-- nil is a row of nothing. -/
theorem SAT.nil_row (h : SAT w0 W D w) (T s : Nat) : SAT w0 W (row T s (.slice none 0 0) 0 [] :: D) w := by
  obtain ⟨fr, O, R, h1, h2⟩ := h
  exact ⟨fr, O, R, ⟨fun _ => False, ⟨by simp, fun _ hx => hx.elim, .inl ⟨rfl, rfl⟩⟩, fun _ hx => hx.elim, sat_mono h1 (fun _ hb => ⟨hb, fun h => h⟩) (fun _ hb => hb)⟩, h2⟩

end

/-- A part of a view. -/
theorem vw_part {A : Option Addr} {cs : List Value} (l m s : Nat) (us : List Value) (hu : us = (cs.drop (l * s)).take us.length) (hm : us ≠ [] → m ≠ l) (w : World) (fp : FP) (h : (vw A cs).P w fp) :
    ∃ q : FP, (∀ b, q b → fp b) ∧ (vw (subBase A l m s) us).P w q := by
  refine ⟨fp, fun _ hb => hb, h.1, fun hp => ?_⟩
  have hlen : l * s + us.length ≤ cs.length := by
    have := congrArg List.length hu
    simp at this
    omega
  obtain ⟨a, rfl, h2, h3⟩ := h.2 (by omega)
  have hne : us ≠ [] := fun e => by rw [e] at hp; simp at hp
  refine ⟨a.add (l * s), by simp [subBase, hm hne], by rw [add_block]; exact h2, fun j v hv => ?_⟩
  have hv' : cs[l * s + j]? = some v := by
    rw [hu, List.getElem?_take] at hv
    split at hv
    · rwa [List.getElem?_drop] at hv
    · cases hv
  have := h3 _ _ hv'
  have e : (a.add (l * s)).add j = a.add (l * s + j) ∨ (j = 0 ∧ (a.add (l * s)).add j = a.add (l * s)) := by
    rcases Nat.eq_zero_or_pos j with hj | hj
    · right; exact ⟨hj, by subst hj; simp [Addr.add]⟩
    · left
      generalize l * s = p
      unfold Addr.add
      by_cases h0 : p = 0
      · subst h0
        simp [show j ≠ 0 by omega]
      · simp [show j ≠ 0 by omega, h0, show p + j ≠ 0 by omega, Nat.add_assoc]
  rcases e with e | ⟨hj, e⟩
  · rw [e]; exact this
  · rw [e, ← show l * s + j = l * s by omega]; exact this

/-- A row seen. -/
theorem vw_of_row {T s n cap : Nat} {A : Option Addr} {cs : List Value} (w : World) (fp : FP) (h : (row T s (.slice A n cap) n cs).P w fp) :
    ∃ q : FP, (∀ x, q x → fp x) ∧ (vw A cs).P w q := by
  obtain ⟨h0, hb, h1⟩ := h
  refine ⟨fp, fun _ hb => hb, hb, fun hp => ?_⟩
  rcases h1 with ⟨hv, hn⟩ | ⟨b, cap', ex, hv, h2, h3, h4, h5, h6⟩
  · rw [h0, hn] at hp; simp at hp
  · injection hv with hv
    subst hv
    refine ⟨_, rfl, (h6 b).2 rfl, fun j v hv => ?_⟩
    rw [Addr.add_mid, cell_of_row w b _ _ T _ h2]
    simp only [Nat.zero_add, List.getElem?_toArray]
    rw [List.getElem?_append_left (List.getElem?_eq_some_iff.1 hv).1]
    exact hv

/-! ### What a list of cells of the memory reads as -/
/-! ### Two facts that may lie over one another -/
def pair (f g : Fact) : Fact where
  own := true
  P := fun w fp => ∃ q1 q2 : FP, (∀ b, q1 b → fp b) ∧ (∀ b, q2 b → fp b) ∧ (∀ b, fp b → q1 b ∨ q2 b) ∧ f.P w q1 ∧ g.P w q2
  loc := fun ⟨q1, q2, h1, h2, h3, h4, h5⟩ hl => ⟨q1, q2, h1, h2, h3, f.loc h4 (fun b hb => hl b (h1 b hb)), g.loc h5 (fun b hb => hl b (h2 b hb))⟩
  bnd := fun ⟨q1, q2, h1, h2, h3, h4, h5⟩ b hb => (h3 b hb).elim (f.bnd h4 b) (g.bnd h5 b)

theorem SAT.shrink {w0 : World} {W : FP} {D : List Fact} {w : World} {f g : Fact} (h : SAT w0 W (f :: D) w) (hf : f.own = true) (hg : g.own = true) (hP : ∀ fp, f.P w fp → ∃ q : FP, (∀ b, q b → fp b) ∧ g.P w q) : SAT w0 W (g :: D) w := by
  obtain ⟨fr, O, R, ⟨fp, hp, h1⟩, h2⟩ := h
  rw [hf] at h1
  obtain ⟨q, hq, hgq⟩ := hP fp hp
  refine ⟨fr, O, R, ⟨q, hgq, ?_⟩, h2⟩
  rw [hg]
  exact ⟨fun b hb => h1.1 b (hq b hb), sat_mono h1.2 (fun b hb => ⟨hb.1, fun h => hb.2 (hq b h)⟩) (fun _ hb => hb)⟩
theorem SAT.pairR {w0 : World} {W : FP} {D : List Fact} {w : World} {f g : Fact} (h : SAT w0 W (pair f g :: D) w) (hg : g.own = true) : SAT w0 W (g :: D) w :=
  h.shrink rfl hg (fun _ ⟨_, q2, _, h2, _, _, h5⟩ => ⟨q2, h2, h5⟩)
theorem SAT.pairUp {w0 : World} {W : FP} {D : List Fact} {w : World} {f g : Fact} (hf : f.own = true) (hg : g.own = true) (h : SAT w0 W (g :: f :: D) w) : SAT w0 W (pair f g :: D) w := by
  obtain ⟨fr, O, R, ⟨fp, hp, h1⟩, h2⟩ := h
  rw [hg] at h1
  obtain ⟨h1, fq, hq, h3⟩ := h1
  rw [hf] at h3
  refine ⟨fr, O, R, ⟨fun b => fp b ∨ fq b, ⟨fq, fp, fun _ h => .inr h, fun _ h => .inl h, fun _ h => h.symm, hq, hp⟩, ?_⟩, h2⟩
  exact ⟨fun b hb => hb.elim (h1 b) (fun h => (h3.1 b h).1), sat_mono h3.2 (fun b hb => ⟨hb.1.1, fun h => h.elim hb.1.2 hb.2⟩) (fun _ hb => hb)⟩
theorem SAT.pairSame {w0 : World} {W : FP} {D : List Fact} {w : World} {f g : Fact} (hf : f.own = true) (h : SAT w0 W (f :: D) w) (hP : ∀ fp, f.P w fp → g.P w fp) : SAT w0 W (pair f g :: D) w :=
  h.turn _ hf.symm (fun fp hp => ⟨fp, fp, fun _ h => h, fun _ h => h, fun _ h => .inl h, hp, hP fp hp⟩)

section
variable {X : Cx} {U : Tab} (hU : U.OK X.P) {t : Env} {D : List Fact} {φ : Env → List Fact → Prop}

omit hU in
theorem vw_cells {A : Option Addr} {cs : List Value} {w : World} {fp : FP} (h : (vw A cs).P w fp) (hp : 0 < cs.length) : ∃ a, A = some a ∧ ∀ j v, cs[j]? = some v → w.cell? (a.add j) = some v := by
  obtain ⟨a, h1, _, h2⟩ := h.2 hp
  exact ⟨a, h1, h2⟩

include hU

theorem Step.make {d : Nat} {ty : TypeId} {x y : Operand} (e s by_ : Nat) (z : Value) (kl kc : IntKind) (l c : Int) (hty : look U.und ty = some (.slice e)) (hti : look U.ti e = some (s, by_, z)) (hx : ev t x = some (.int kl l)) (hy : ev t y = some (.int kc c))
    (h0 : 0 ≤ l) (hlc : l ≤ c) (hb : (by_ : Int) * c ≤ 281474976710656) (h63 : c ≤ 9223372036854775807) (hd : Nat.ble (d + 1) X.N = true)
    (k : ∀ b, φ (put t d (.slice (some ⟨b, 0, none⟩) l.toNat c.toNat)) (blk b e (madeCells z.cells (c.toNat * s)).toList :: D)) : Step X (some d) (.makeSlice ty x y) t D φ := by
  intro o hdst hop ρ a w ha hw Q K hK
  obtain ⟨i, hi, h1, h2, h3⟩ := hU.ti _ (look_mem hti)
  simp only at hi h1 h2 h3
  subst h1; subst h2
  have hrun := run_make (P := X.P) w ty e i z (hU.und _ (look_mem hty)) hi h3 kl kc l c h0 hlc hb h63
  have hr : (execOp a.eval o).run X.P w = .ok (.value (.slice (some ⟨w.heap.size, 0, none⟩) l.toNat c.toNat)) (w.alloc (.cells (madeCells z.cells (c.toNat * i.size)).toList.toArray e (0, 0))) := by
    unfold execOp
    simp only [hop, ha.ev hx, ha.ev hy, Sem.run_bind, hrun, Result.andThen_ok]
    simp
  refine wp_val hr (hK _ _ _ _ ?_ (hw.alloc _ (blk w.heap.size e _) rfl (blk_new w e _)) (k w.heap.size))
  rw [hdst]
  exact ha.put (Nat.le_of_ble_eq_true hd) _

/-- x is appended, whose cells can be read. -/
theorem Step.append0 {d : Nat} {ty : TypeId} {x y : Operand} (e s by_ : Nat) (z : Value) (k0 k1 : Nat) (v : Value) (n : Nat) (cs : List Value) (A : Option Addr) (m c : Nat) (f : Fact) (us : List Value)
    (hty : look U.und ty = some (.slice e)) (hti : look U.ti e = some (s, by_, z)) (hzs : z.cells.size = s) (hs0 : 0 < s)
    (hx : ev t x = some v) (hy : ev t y = some (.slice A m c)) (hD : D[k0]? = some (row e s v n cs)) (hf : D[k1]? = some f) (hfu : ∀ w fp, f.P w fp → ∃ q : FP, (∀ b, q b → fp b) ∧ (vw A us).P w q)
    (hul : us.length = m * s) (h1 : ∀ u ∈ us, u.oneCell' = true) (h63 : n + m ≤ 140737488355328) (hb : (n + m) * by_ ≤ 140737488355328) (hd : Nat.ble (d + 1) X.N = true)
    (k : ∀ v', (∃ B cap, v' = .slice B (n + m) cap ∧ (0 < n + m → B.isSome = true)) → φ (put t d v') (pair (row e s v n cs) (row e s v' (n + m) (cs ++ us)) :: D.eraseIdx k0)) : Step X (some d) (.call { callee := .builtin .append, args := #[x, y], argTypes := #[ty, ty] }) t D φ := by
  intro o hdst hop ρ a w ha hw Q K hK
  obtain ⟨i, hi, h1', h2', h3⟩ := hU.ti _ (look_mem hti)
  simp only at hi h1' h2' h3
  subst h1'; subst h2'
  have hmx : n + m ≤ maxLen := by simp only [maxLen]; omega
  have ht := hU.und _ (look_mem hty)
  simp only at ht
  have hw' := hw.pull hD
  obtain ⟨fpr, hc0, hbd, hform⟩ := hw'.head
  obtain ⟨fpf, hfP⟩ := hw.get k1 hf
  obtain ⟨q, _, hvw⟩ := hfu w fpf hfP
  have hlen : (cs ++ us).length = (n + m) * i.size := by rw [List.length_append, hc0, hul, Nat.add_mul]
  -- what the operation comes to, out of the builtin's run
  have fin : ∀ (v' : Value) (w' : World), (Builtin.append_ #[ty, ty] o.type #[v, .slice A m c]).run X.P w = .ok v' w' → SAT ρ.w0 ρ.W (pair (row e i.size v n cs) (row e i.size v' (n + m) (cs ++ us)) :: D.eraseIdx k0) w' →
      (∃ B cap, v' = .slice B (n + m) cap ∧ (0 < n + m → B.isSome = true)) → wp2 X o a w K Q := by
    intro v' w' hrun hsat hv'
    have hr : (execOp a.eval o).run X.P w = .ok (.value v') w' := by
      unfold execOp
      simp only [hop, resolve, invoke, builtin, Sem.run_bind, Sem.run_pure, Result.andThen_ok, List.map_toArray, List.map_cons, List.map_nil, ha.ev hx, ha.ev hy, hrun]
    refine wp_val hr (hK _ _ _ _ ?_ hsat (k v' hv'))
    rw [hdst]
    exact ha.put (Nat.le_of_ble_eq_true hd) _
  -- a new row
  have grown : ∀ (old : Nat), SAT ρ.w0 ρ.W (row e i.size v n cs :: D.eraseIdx k0) w → SAT ρ.w0 ρ.W (pair (row e i.size v n cs) (row e i.size (.slice (some ⟨w.heap.size, 0, none⟩) (n + m) (grownCap w (n + m) old e)) (n + m) (cs ++ us)) :: D.eraseIdx k0)
      (w.drew.alloc (.cells (cs.toArray ++ us.toArray ++ Builtin.zeroCells z.cells (grownCap w (n + m) old e - (n + m))) e)) := by
    intro old hs
    have hge := grownCap_ge w (n + m) old e
    have hcm := grownCap_le_maxLen w (n + m) old e hmx
    refine SAT.pairUp rfl rfl (hs.drew.alloc _ _ rfl ⟨hlen, ?_, .inr ⟨w.heap.size, _, (Builtin.zeroCells z.cells (grownCap w (n + m) old e - (n + m))).toList, rfl, ?_, hge, hcm, ?_, fun x => Iff.rfl⟩⟩)
    · rintro x rfl
      show w.heap.size < _
      simp
    · rw [show w.heap.size = w.drew.heap.size from rfl, heap_alloc_new]
      congr 2
      simp
    · rw [List.length_append, hlen, Array.length_toList, size_zeroCells, hzs, ← Nat.add_mul]
      congr 1
      omega
  by_cases hm : m = 0
  · -- nothing is added
    subst hm
    have hu0 : us = [] := List.eq_nil_of_length_eq_zero (by simpa using hul)
    subst hu0
    have hzero : ∀ (B : Option Addr) (cp : Nat), n ≤ cp → (Builtin.append_ #[ty, ty] o.type #[.slice B n cp, .slice A 0 c]).run X.P w = .ok (.slice B n cp) w := by
      intro B cp hn
      have hfc : (Builtin.firstCells i.size 0 (.slice A 0 c)).run X.P w = .ok #[] w := by
        cases A <;> simp [Builtin.firstCells, loadCells, loadCellsFrom]
      cases B with
      | none => simp [Builtin.append_, run_underlying ht, sizeOf, typeInfo, hi, Builtin.lenOf, hn, hfc]
      | some B => simp [Builtin.append_, run_underlying ht, sizeOf, typeInfo, hi, Builtin.lenOf, hn, hfc, storeCells]
    rcases hform with ⟨rfl, rfl⟩ | ⟨b, cap, ex, rfl, hh, hnc, hcm, hex, hfp⟩
    · refine fin _ w (hzero none 0 (Nat.le_refl _)) ?_ ⟨none, 0, rfl, fun h => by omega⟩
      exact SAT.pairSame rfl (by simpa using hw') (by simp)
    · refine fin _ w (hzero _ cap hnc) ?_ ⟨_, cap, rfl, fun _ => rfl⟩
      exact SAT.pairSame rfl (by simpa using hw') (by simp)
  · have hp : 0 < us.length := by rw [hul]; exact Nat.mul_pos (Nat.pos_of_ne_zero hm) hs0
    obtain ⟨ad, rfl, hcells⟩ := vw_cells hvw hp
    rcases hform with ⟨rfl, rfl⟩ | ⟨b, cap, ex, rfl, hh, hnc, hcm, hex, hfp⟩
    · have hcs : cs = [] := List.eq_nil_of_length_eq_zero (by simpa using hc0)
      subst hcs
      have hr := run_append_nil (P := X.P) w ty o.type e i z ht hi h3 ad m c us hul hcells (by omega) (by omega) (by have hb := hb; simp only [Nat.zero_add] at hb; omega)
      have hg := grown 0 hw'
      simp only [Nat.zero_add, List.nil_append, Array.empty_append] at hg hr fin
      refine fin _ _ hr hg ⟨_, _, rfl, fun _ => rfl⟩
    · by_cases hroom : n + m ≤ cap
      · have hfit : n * i.size + us.length ≤ (cs ++ ex).toArray.size := by rw [hul]; simp only [List.size_toArray, hex, ← Nat.add_mul]; exact Nat.mul_le_mul_right _ hroom
        have hr := run_append_room (P := X.P) w ty o.type e i ht hi b n cap (cs ++ ex).toArray hh ad m c us hul hcells h1 hroom hfit
        refine fin _ _ hr ?_ ⟨_, cap, rfl, fun _ => rfl⟩
        have e1 : List.take (n * i.size) (cs ++ ex).toArray.toList ++ us ++ List.drop (n * i.size + us.length) (cs ++ ex).toArray.toList = (cs ++ us) ++ ex.drop us.length := by
          simp only [← hc0, List.take_left, List.append_assoc, List.drop_append]
          simp
        rw [e1]
        have hl2 : ex.length = (cap - n) * i.size := by
          have := hex
          rw [List.length_append, hc0] at this
          rw [Nat.sub_mul]
          omega
        refine hw'.change rfl _ rfl rfl rfl rfl (by simp) (fun fp hp' => ?_)
        have hfp' : ∀ x, fp x ↔ x = b := by
          rcases hp'.2.2 with ⟨hv, _⟩ | ⟨b', cap', ex', hv, _, _, _, _, h6⟩
          · cases hv
          · injection hv with hv
            injection hv with hv
            injection hv with hv
            subst hv
            exact h6
        refine ⟨fun x hx => setRow_other w b x _ (fun e => hx ((hfp' x).2 e)), fp, fp, fun _ h => h, fun _ h => h, fun _ h => .inl h, ⟨hc0, fun x hx => ?_, .inr ⟨b, cap, us ++ ex.drop us.length, rfl, by rw [← List.append_assoc]; exact setRow_heap w b _ _ e _ hh, hnc, hcm, ?_, hfp'⟩⟩, ⟨hlen, fun x hx => ?_, .inr ⟨b, cap, ex.drop us.length, rfl, setRow_heap w b _ _ e _ hh, hroom, hcm, ?_, hfp'⟩⟩⟩
        · have := hp'.2.1 x hx; simpa using this
        · rw [← List.append_assoc, List.length_append, hlen, List.length_drop, hl2, hul, ← Nat.sub_mul, ← Nat.add_mul]
          congr 1
          omega
        · have := hp'.2.1 x hx; simpa using this
        · rw [List.length_append, hlen, List.length_drop, hl2, hul, ← Nat.sub_mul, ← Nat.add_mul]
          congr 1
          omega
      · have holds : ∀ j u, cs[j]? = some u → w.cell? ((⟨b, 0, none⟩ : Addr).add j) = some u := fun j u hu => by
          rw [Addr.add_mid, cell_of_row w b _ _ e _ hh]
          simp only [Nat.zero_add, List.getElem?_toArray]
          rw [List.getElem?_append_left (List.getElem?_eq_some_iff.1 hu).1]
          exact hu
        have hr := run_append_grow (P := X.P) w ty o.type e i z ht hi h3 ⟨b, 0, none⟩ n cap cs hc0 holds ad m c us hul hcells (by omega) (by omega) (growslice_fits (by omega) hb)
        exact fin _ _ hr (grown cap hw') ⟨_, _, rfl, fun _ => rfl⟩

theorem Step.append {d : Nat} {ty : TypeId} {x y : Operand} (e s by_ : Nat) (z : Value) (k0 k1 : Nat) (v : Value) (n : Nat) (cs : List Value) (A : Option Addr) (m c : Nat) (f : Fact) (us : List Value)
    (hty : look U.und ty = some (.slice e)) (hti : look U.ti e = some (s, by_, z)) (hzs : z.cells.size = s) (hs0 : 0 < s)
    (hx : ev t x = some v) (hy : ev t y = some (.slice A m c)) (hD : D[k0]? = some (row e s v n cs)) (hf : D[k1]? = some f) (hfu : ∀ w fp, f.P w fp → ∃ q : FP, (∀ b, q b → fp b) ∧ (vw A us).P w q)
    (hul : us.length = m * s) (h1 : ∀ u ∈ us, u.oneCell' = true) (h63 : n + m ≤ 140737488355328) (hb : (n + m) * by_ ≤ 140737488355328) (hd : Nat.ble (d + 1) X.N = true)
    (k : ∀ v', (∃ B cap, v' = .slice B (n + m) cap ∧ (0 < n + m → B.isSome = true)) → φ (put t d v') (row e s v' (n + m) (cs ++ us) :: D.eraseIdx k0)) : Step X (some d) (.call { callee := .builtin .append, args := #[x, y], argTypes := #[ty, ty] }) t D φ := by
  intro o hdst hop ρ a w ha hw Q K hK
  refine Step.append0 (φ := fun t' D' => ∃ v', t' = put t d v' ∧ D' = pair (row e s v n cs) (row e s v' (n + m) (cs ++ us)) :: D.eraseIdx k0 ∧ (∃ B cap, v' = .slice B (n + m) cap ∧ (0 < n + m → B.isSome = true))) hU e s by_ z k0 k1 v n cs A m c f us hty hti hzs hs0 hx hy hD hf hfu hul h1 h63 hb hd (fun v' hv' => ⟨v', rfl, rfl, hv'⟩) o hdst hop ρ a w ha hw Q K (fun t' D' a' w' h1 h2 h3 => ?_)
  obtain ⟨v', rfl, rfl, hv'⟩ := h3
  exact hK _ _ _ _ h1 (h2.pairR rfl) (k v' hv')
end
end Go.Proofs.YtjhinpmnpdgadaaDoor.SL
