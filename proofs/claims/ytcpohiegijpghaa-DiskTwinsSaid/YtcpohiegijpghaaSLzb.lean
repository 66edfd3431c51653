/- Rows that are owned together; a row of structs of a number and a slice; objects: what is owned, as one fact. -/
import Derived.Test.YtcpohiegijpghaaSLza
import Derived.Test.YtcpohiegijpghaaSLx
import Derived.Test.YtcpohiegijpghaaSLt
namespace Go.Proofs.Ytcpohiegijpghaa.SL
set_option linter.unusedVariables false
open Go

/-- Many rows that are owned together, and written no more. -/
def rws (k : IntKind) (G : List Ro) : Fact where
  own := true
  P := (vws (rowsL k G)).P
  loc := (vws (rowsL k G)).loc
  bnd := (vws (rowsL k G)).bnd
theorem tells_rws {k : IntKind} {G : List Ro} {A : Option Addr} {c : Nat} {xs : List Int} (h : (A, c, xs) ∈ G) : Tells (rws k G) A (nums k xs) := fun w fp hp =>
  tells_vws (L := rowsL k G) (List.mem_map.2 ⟨(A, c, xs), h, rfl⟩) w fp hp
theorem SAT.rws0 {w0 : World} {W : FP} {D : List Fact} {w : World} (k : IntKind) (h : SAT w0 W D w) : SAT w0 W (rws k [] :: D) w := by
  obtain ⟨fr, O, R, h1, h2, h3, h4⟩ := h
  refine ⟨fr, O, R, ⟨fun _ => False, ⟨fun _ h => h.elim, fun r hr => (by cases hr)⟩, ?_⟩, h2, h3, h4⟩
  exact ⟨fun _ h => h.elim, sat_mono h1 (fun b hb => ⟨hb, fun h => h⟩) (fun _ h => h)⟩
theorem SAT.rwsSub {w0 : World} {W : FP} {D : List Fact} {w : World} {k : IntKind} {G : List Ro} (h : SAT w0 W (rws k G :: D) w) (G' : List Ro) (hs : ∀ r ∈ G', r ∈ G) : SAT w0 W (rws k G' :: D) w :=
  h.turn (rws k G') rfl fun fp hp => ⟨hp.1, fun r hr h0 => by
    obtain ⟨r0, hr0, rfl⟩ := List.mem_map.1 hr
    exact hp.2 _ (List.mem_map.2 ⟨r0, hs r0 hr0, rfl⟩) h0⟩
/-- A row that is owned goes in. -/
theorem SAT.rwsPush {w0 : World} {W : FP} {D : List Fact} {w : World} {k : IntKind} {G : List Ro} {f : Fact} (A : Option Addr) (c : Nat) (xs : List Int) (hf : f.own = true) (ht : Tells f A (nums k xs)) (h : SAT w0 W (f :: rws k G :: D) w) : SAT w0 W (rws k ((A, c, xs) :: G) :: D) w := by
  obtain ⟨fr, O, R, ⟨fp, hp, h1⟩, h2, h3, h4⟩ := h
  rw [hf] at h1
  obtain ⟨ho, gp, hg, h5⟩ := h1
  have h5 : (∀ b, gp b → O b ∧ ¬ fp b) ∧ sat D w (fun b => (O b ∧ ¬ fp b) ∧ ¬ gp b) R := h5
  obtain ⟨q, hq, hv⟩ := ht w fp hp
  refine ⟨fr, O, R, ⟨fun b => q b ∨ gp b, ⟨fun b hb => hb.elim (hv.1 b) (hg.1 b), fun r hr h0 => ?_⟩, fun b hb => hb.elim (fun h => ho b (hq b h)) (fun h => (h5.1 b h).1), sat_mono h5.2 (fun b hb => ⟨hb.1.1, fun h => h.elim (fun h => hb.1.2 (hq b h)) hb.2⟩) (fun _ h => h)⟩, h2, h3, h4⟩
  rcases List.mem_cons.1 hr with rfl | hr
  · obtain ⟨a, e1, e2, e3⟩ := hv.2 h0
    exact ⟨a, e1, .inl e2, e3⟩
  · obtain ⟨a, e1, e2, e3⟩ := hg.2 r hr h0
    exact ⟨a, e1, .inr e2, e3⟩

/-- A row's structs: a number and a slice. -/
abbrev Ch := Int × Ro
def chV : List Ch → List Value
  | [] => []
  | r :: rs => .int .i64 r.1 :: .slice r.2.1 r.2.2.2.length r.2.2.1 :: chV rs
theorem chV_len : ∀ rs : List Ch, (chV rs).length = rs.length * 2
  | [] => rfl
  | r :: rs => by rw [chV, List.length_cons, List.length_cons, chV_len rs, List.length_cons]; omega
theorem chV_append : ∀ a b : List Ch, chV (a ++ b) = chV a ++ chV b
  | [], b => rfl
  | r :: a, b => by rw [List.cons_append, chV, chV, chV_append a b]; rfl
theorem chV_get : ∀ {rs : List Ch} {i : Nat} {k : Int} {A : Option Addr} {c : Nat} {xs : List Int}, rs[i]? = some (k, A, c, xs) → ((chV rs).drop (i * 2)).take 2 = [.int .i64 k, .slice A xs.length c]
  | [], i, k, A, c, xs, h => by simp at h
  | r :: rs, 0, k, A, c, xs, h => by
    simp only [List.getElem?_cons_zero, Option.some.injEq] at h
    subst h
    rfl
  | r :: rs, i + 1, k, A, c, xs, h => by
    rw [List.getElem?_cons_succ] at h
    rw [show (i + 1) * 2 = i * 2 + 1 + 1 by omega, chV, List.drop_succ_cons, List.drop_succ_cons]
    exact chV_get h
theorem chV_one : ∀ {rs : List Ch}, ∀ u ∈ chV rs, u.oneCell' = true
  | [], u, h => by cases h
  | r :: rs, u, h => by
    rcases List.mem_cons.1 h with rfl | h
    · rfl
    · rcases List.mem_cons.1 h with rfl | h
      · rfl
      · exact chV_one u h
def ChOK (k : IntKind) (rs : List Ch) : Prop := ∀ r ∈ rs, fits .i64 r.1 ∧ In k r.2.2.2 ∧ r.2.2.2.length ≤ r.2.2.1 ∧ r.2.2.2.length ≤ 140737488351232
theorem ch_at {k : IntKind} {rs : List Ch} (h : ChOK k rs) {i : Nat} (hi : i < rs.length) : ∃ b A c xs, rs[i]? = some (b, A, c, xs) ∧ fits .i64 b ∧ In k xs ∧ xs.length ≤ c ∧ xs.length ≤ 140737488351232 :=
  ⟨rs[i].1, rs[i].2.1, rs[i].2.2.1, rs[i].2.2.2, List.getElem?_eq_getElem hi, h _ (List.getElem_mem hi)⟩
theorem ChOK.nil (k : IntKind) : ChOK k [] := fun r hr => by cases hr
theorem ChOK.append {k : IntKind} {a b : List Ch} (h : ChOK k a) (g : ChOK k b) : ChOK k (a ++ b) := fun r hr => (List.mem_append.1 hr).elim (h r) (g r)
theorem ChOK.one {k : IntKind} {b : Int} {A : Option Addr} {c : Nat} {xs : List Int} (h0 : fits .i64 b) (h1 : In k xs) (h2 : xs.length ≤ c) (h3 : xs.length ≤ 140737488351232) : ChOK k [(b, A, c, xs)] := fun r hr => by
  rcases List.mem_cons.1 hr with rfl | hr
  · exact ⟨h0, h1, h2, h3⟩
  · cases hr
theorem loadv_ch {U : Tab} {ty : TypeId} {rs : List Ch} {i : Nat} {b : Int} {c : Nat} {A : Option Addr} {xs : List Int} (hty : isRowTy U ty = some true) (hsz : look U.sz ty = some 2) (h : rs[i]? = some (b, A, c, xs)) : loadv U ty (chV rs) (i * 2) = some (.agg #[.int .i64 b, .slice A xs.length c]) := by
  unfold loadv
  rw [hty, hsz]
  have hi := (List.getElem?_eq_some_iff.1 h).1
  have : Nat.ble (i * 2 + 2) (chV rs).length = true := Nat.ble_eq_true_of_le (by rw [chV_len]; omega)
  simp only [this, chV_get h]
/-! ### Room -/
/-- A row's beginning, with all its room. -/
theorem SAT.rowCut {w0 : World} {W : FP} {D : List Fact} {w : World} {T n c : Nat} {A : Option Addr} {cs : List Value} (k0 m : Nat) (hD : D[k0]? = some (row T 1 (.slice A n c) n cs)) (hm : m ≤ n) (h : SAT w0 W D w) : SAT w0 W (row T 1 (.slice A m c) m (cs.take m) :: D.eraseIdx k0) w := by
  refine (h.pull hD).turn _ rfl fun fp hp => ?_
  obtain ⟨h1, h2, h3⟩ := hp
  refine ⟨by rw [List.length_take]; omega, h2, ?_⟩
  rcases h3 with ⟨h3, h4⟩ | ⟨b, cap, ex, h3, h4, h5, h6, h7, h8⟩
  · injection h3 with e1 e2 e3
    subst e1; subst e3
    exact .inl ⟨by rw [show m = 0 by omega], by omega⟩
  · injection h3 with e1 e2 e3
    subst e1; subst e3
    refine .inr ⟨b, c, cs.drop m ++ ex, rfl, ?_, by omega, h6, ?_, h8⟩
    · rw [h4, ← List.append_assoc, List.take_append_drop]
    · rw [← List.append_assoc, List.take_append_drop]; exact h7
theorem SAT.rowCutN {w0 : World} {W : FP} {D : List Fact} {w : World} {T n c : Nat} {A : Option Addr} {k : IntKind} {xs : List Int} (k0 m : Nat) (hD : D[k0]? = some (row T 1 (.slice A n c) n (nums k xs))) (hm : m ≤ n) (h : SAT w0 W D w) : SAT w0 W (row T 1 (.slice A m c) m (nums k (xs.take m)) :: D.eraseIdx k0) w := by
  have := h.rowCut k0 m hD hm
  rwa [show (nums k xs).take m = nums k (xs.take m) by simp [nums, List.map_take]] at this
section
variable {X : Cx} {U : Tab} (hU : U.OK X.P) {t : Env} {D : List Fact} {φ : Env → List Fact → Prop}
include hU
theorem Step.cap {d : Nat} {ty : TypeId} {x : Operand} (e : Nat) (A : Option Addr) (n c : Nat) (hty : look U.und ty = some (.slice e)) (hx : ev t x = some (.slice A n c)) (hd : Nat.ble (d + 1) X.N = true)
    (k : φ (put t d (.int .i64 (c : Int))) D) : Step X (some d) (.call { callee := .builtin .cap, args := #[x], argTypes := #[ty] }) t D φ := by
  intro o hdst hop ρ a w ha hw Q K hK
  have hr : (execOp a.eval o).run X.P w = .ok (.value (.int .i64 (c : Int))) w := by
    unfold execOp
    simp only [hop, resolve, invoke, builtin, Sem.run_bind, Sem.run_pure, Result.andThen_ok, List.map_toArray, List.map_cons, List.map_nil]
    simp [Builtin.cap_, ha.ev hx, hU.run_und hty, goInt]
  refine wp_val hr (hK _ _ _ _ ?_ hw k)
  rw [hdst]
  exact ha.put (Nat.le_of_ble_eq_true hd) _
end
/-! ### Objects -/
section
variable {X : Cx} {U : Tab} {K : Post} {t : Env} {D : List Fact} {ops : Array Oper} {i : Nat}
end

/-! ### Structs of a number and a slice -/
/-- What the slices of such a row lead to: owned together. -/
def chd (k : IntKind) (ws : List Ch) : Fact := rws k (ws.map (·.2))
theorem tells_chd {k : IntKind} {rs : List Ch} {i : Nat} {b : Int} {c : Nat} {A : Option Addr} {xs : List Int} (h : rs[i]? = some (b, A, c, xs)) : Tells (chd k rs) A (nums k xs) :=
  tells_rws (c := c) (List.mem_map.2 ⟨(b, A, c, xs), List.mem_of_getElem? h, rfl⟩)
theorem SAT.chd0 {w0 : World} {W : FP} {D : List Fact} {w : World} (k : IntKind) (h : SAT w0 W D w) : SAT w0 W (chd k [] :: D) w := h.rws0 k
theorem SAT.chdPush {w0 : World} {W : FP} {D : List Fact} {w : World} {k : IntKind} {ws : List Ch} {f : Fact} (b : Int) (A : Option Addr) (c : Nat) (xs : List Int) (hf : f.own = true) (ht : Tells f A (nums k xs)) (h : SAT w0 W (f :: chd k ws :: D) w) : SAT w0 W (chd k (ws ++ [(b, A, c, xs)]) :: D) w :=
  (SAT.rwsPush (G := ws.map (·.2)) A c xs hf ht h).rwsSub _ (fun r hr => by
    rw [List.map_append, List.mem_append] at hr
    rcases hr with hr | hr
    · exact List.mem_cons_of_mem _ hr
    · rw [List.map_cons, List.map_nil, List.mem_singleton] at hr
      rw [hr]
      exact List.mem_cons_self)
theorem SAT.pulls2 {w0 : World} {W : FP} {D : List Fact} {w : World} (ks : List Nat) (D' : List Fact) (hd : (pulls ks D).1 ++ (pulls ks D).2 = D') (h : SAT w0 W D w) : SAT w0 W D' w := by
  rw [← hd]
  exact h.perm (pulls_perm ks D)
section
variable {X : Cx} {U : Tab} (hU : U.OK X.P) {t : Env} {D : List Fact} {φ : Env → List Fact → Prop}
include hU
theorem Step.load_of {d : Nat} {ty : TypeId} {x : Operand} (k0 : Nat) (f : Fact) (A : Option Addr) (i : Int) (s : Nat) (cs : List Value) (v : Value) (hx : ev t x = some (.pointer (elemAt A i s))) (hD : D[k0]? = some f) (ht : Tells f A cs) (hv : loadv U ty cs (i.toNat * s) = some v)
    (hd : Nat.ble (d + 1) X.N = true) (hlt : i.toNat * s < cs.length) (k : φ (put t d v) D) : Step X (some d) (.load ty x) t D φ := by
  intro op hdst hop ρ a w ha hw Q K hK
  obtain ⟨fp, hp⟩ := hw.get k0 hD
  obtain ⟨q, _, _, hh⟩ := ht w fp hp
  obtain ⟨ad, rfl, _, hc⟩ := hh (by omega)
  have hr : (execOp a.eval op).run X.P w = .ok (.value v) w := by
    unfold execOp
    simp only [hop, ha.ev hx]
    have := run_loadv hU (X := X) hv (a := ad.add (i.toNat * s)) (w := w) (fun j u hu => by
      rcases Nat.eq_zero_or_pos (i.toNat * s) with h0 | h0
      · rw [h0] at hu ⊢
        have := hc (0 + j) u hu
        simpa [Addr.add] using this
      · rcases Nat.eq_zero_or_pos j with h1 | h1
        · subst h1
          have := hc _ u hu
          simpa [Addr.add] using this
        · have := hc _ u hu
          have e : (ad.add (i.toNat * s)).add j = ad.add (i.toNat * s + j) := by
            unfold Addr.add
            rw [if_neg (by omega), if_neg (by omega), if_neg (by omega)]
            simp [Nat.add_assoc]
          rw [e]
          exact this)
    rw [Sem.run_bind]
    rw [show elemAt (some ad) i s = some (ad.add (i.toNat * s)) from rfl, this]
    rfl
  refine wp_val hr (hK _ _ _ _ ?_ hw k)
  rw [hdst]
  exact ha.put (Nat.le_of_ble_eq_true hd) _
/-- A row of one struct of two cells. -/
theorem Step.lit_pair {d : Nat} {ty : TypeId} {x : Operand} (e by_ : Nat) (z u v : Value) (hty : look U.und ty = some (.slice e)) (hti : look U.ti e = some (2, by_, z)) (hx : ev t x = some (.agg #[u, v])) (hu : u.oneCell' = true) (hv : v.oneCell' = true) (hd : Nat.ble (d + 1) X.N = true)
    (k : ∀ b, φ (put t d (.slice (some ⟨b, 0, none⟩) 1 1)) (row e 2 (.slice (some ⟨b, 0, none⟩) 1 1) 1 [u, v] :: D)) : Step X (some d) (.buildSlice ty 1 #[(0, x)]) t D φ := by
  intro o hdst hop ρ a w ha hw Q K hK
  obtain ⟨i, hi, h1, h2, h3⟩ := hU.ti _ (look_mem hti)
  simp only at hi h1 h2 h3
  have hund := hU.und _ (look_mem hty)
  simp only at hund
  have hfill : ∀ cells : Array Value, cells.size = 2 → Instr.fill (fun i => some (i * 2, 2)) cells [(0, .agg #[u, v])] = some #[u, v] := by
    rintro ⟨l⟩ hc
    match l, hc with
    | [p, q], _ => simp [Instr.fill, Value.cells]
  have hr : (execOp a.eval o).run X.P w = .ok (.value (.slice (some ⟨w.heap.size, 0, none⟩) 1 1)) (w.alloc (.cells #[u, v] e (0, 0))) := by
    unfold execOp
    simp only [hop, Instr.buildSlice, Sem.run_bind, run_underlying hund, Result.andThen_ok, sizeOf, typeInfo, run_program, hi, h1, Sem.run_pure, Sem.run_ite, zeroValue, h3]
    have e1 : (Array.map (fun p : Nat × Operand => (p.1, a.eval p.2)) #[(0, x)]).toList = [(0, .agg #[u, v])] := by simp [ha.ev hx]
    rw [e1]
    simp [newRow]
    rw [hfill _ (by simp)]
    simp
  have hs := hw.alloc _ (blk w.heap.size e [u, v]) rfl (blk_new w e _)
  have hs2 := SAT.row_of_blk (s := 2) (n := 1) (cap := 1) hs (Nat.le_refl _) (by simp only [maxLen]; omega) (by simp)
  rw [List.take_of_length_le (by simp)] at hs2
  refine wp_val hr (hK _ _ _ _ ?_ hs2 (k w.heap.size))
  rw [hdst]
  exact ha.put (Nat.le_of_ble_eq_true hd) _
theorem Step.append_ch {d : Nat} {ty : TypeId} {x y : Operand} (e by_ : Nat) (z : Value) (k0 k1 : Nat) (B : Option Addr) (n cap : Nat) (rs : List Ch) (A : Option Addr) (m c : Nat) (f : Fact) (qs : List Ch)
    (hty : look U.und ty = some (.slice e)) (hti : look U.ti e = some (2, by_, z)) (hzs : Nat.beq z.cells.size 2 = true)
    (hx : ev t x = some (.slice B n cap)) (hy : ev t y = some (.slice A m c)) (hD : D[k0]? = some (row e 2 (.slice B n cap) n (chV rs))) (hf : D[k1]? = some f) (hfu : Tells f A (chV qs))
    (hm : qs.length = m) (h63 : n + m ≤ 140737488355328) (hb : (n + m) * by_ ≤ 140737488355328) (hd : Nat.ble (d + 1) X.N = true)
    (k : ∀ B' cap', n + m ≤ cap' → (0 < n + m → B'.isSome = true) → φ (put t d (.slice B' (n + m) cap')) (row e 2 (.slice B' (n + m) cap') (n + m) (chV (rs ++ qs)) :: D.eraseIdx k0)) :
    Step X (some d) (.call { callee := .builtin .append, args := #[x, y], argTypes := #[ty, ty] }) t D φ := by
  subst hm
  intro o hdst hop ρ a w ha hw Q K hK
  refine Step.append (φ := fun t' D' => ∃ B' cap', t' = put t d (.slice B' (n + qs.length) cap') ∧ (0 < n + qs.length → B'.isSome = true) ∧ D' = row e 2 (.slice B' (n + qs.length) cap') (n + qs.length) (chV (rs ++ qs)) :: D.eraseIdx k0) hU e 2 by_ z k0 k1 _ n (chV rs) A qs.length c f (chV qs) hty hti (Nat.eq_of_beq_eq_true hzs) (by decide) hx hy hD hf hfu (chV_len _) chV_one h63 hb hd (fun v' hv' => ?_) o hdst hop ρ a w ha hw Q K (fun t' D' a' w' h1 h2 h3 => ?_)
  · rw [← chV_append]
    obtain ⟨B', cap', rfl, hs⟩ := hv'
    exact ⟨B', cap', rfl, hs, rfl⟩
  · obtain ⟨B', cap', rfl, hs, rfl⟩ := h3
    refine hK _ _ _ _ h1 h2 (k B' cap' ?_ hs)
    obtain ⟨fp, hp⟩ := h2.head
    rcases hp.2.2 with ⟨h4, h5⟩ | ⟨b, cp, ex, h4, _, h5, _⟩
    · injection h4 with _ _ e3
      omega
    · injection h4 with _ _ e3
      omega
end

/-! ### Rows of truths -/
def bls (ks : List Bool) : List Value := ks.map .bool
theorem bls_len (ks : List Bool) : (bls ks).length = ks.length := List.length_map _
theorem bls_get {ks : List Bool} {i : Nat} (h : i < ks.length) : (bls ks)[i]? = some (.bool (ks.getD i false)) := by
  rw [bls, List.getElem?_map, List.getElem?_eq_getElem h, List.getD_eq_getElem?_getD, List.getElem?_eq_getElem h]
  rfl
theorem loadv_bls {U : Tab} {ty : TypeId} {ks : List Bool} {i : Nat} (hty : isRowTy U ty = some false) (h : i < ks.length) : loadv U ty (bls ks) (i * 1) = some (.bool (ks.getD i false)) := by
  unfold loadv
  rw [hty, Nat.mul_one]
  exact bls_get h
section
variable {X : Cx} {U : Tab} (hU : U.OK X.P) {t : Env} {D : List Fact} {φ : Env → List Fact → Prop}
include hU
/-- A row of truths written out. -/
theorem Step.lit_bools2 {d : Nat} {ty : TypeId} {x y : Operand} (e by_ : Nat) (z : Value) (p q : Bool) (hty : look U.und ty = some (.slice e)) (hti : look U.ti e = some (1, by_, z)) (hx : ev t x = some (.bool p)) (hy : ev t y = some (.bool q)) (hd : Nat.ble (d + 1) X.N = true)
    (k : ∀ b, φ (put t d (.slice (some ⟨b, 0, none⟩) 2 2)) (row e 1 (.slice (some ⟨b, 0, none⟩) 2 2) 2 (bls [p, q]) :: D)) : Step X (some d) (.buildSlice ty 2 #[(0, x), (1, y)]) t D φ := by
  intro o hdst hop ρ a w ha hw Q K hK
  obtain ⟨i, hi, h1, h2, h3⟩ := hU.ti _ (look_mem hti)
  simp only at hi h1 h2 h3
  have hund := hU.und _ (look_mem hty)
  simp only at hund
  have hfill : ∀ cells : Array Value, cells.size = 2 → Instr.fill (fun i => some (i, 1)) cells [(0, .bool p), (1, .bool q)] = some #[.bool p, .bool q] := by
    rintro ⟨l⟩ hc
    match l, hc with
    | [p, q], _ => simp [Instr.fill, Value.cells]
  have hr : (execOp a.eval o).run X.P w = .ok (.value (.slice (some ⟨w.heap.size, 0, none⟩) 2 2)) (w.alloc (.cells #[.bool p, .bool q] e (0, 0))) := by
    unfold execOp
    simp only [hop, Instr.buildSlice, Sem.run_bind, run_underlying hund, Result.andThen_ok, sizeOf, typeInfo, run_program, hi, h1, Sem.run_pure, Sem.run_ite, zeroValue, h3]
    have e1 : (Array.map (fun p : Nat × Operand => (p.1, a.eval p.2)) #[(0, x), (1, y)]).toList = [(0, .bool p), (1, .bool q)] := by simp [ha.ev hx, ha.ev hy]
    rw [e1]
    simp [newRow]
    rw [hfill _ (by simp)]
    simp
  have hs := hw.alloc _ (blk w.heap.size e [.bool p, .bool q]) rfl (blk_new w e _)
  have hs2 := SAT.row_of_blk (s := 1) (n := 2) (cap := 2) hs (Nat.le_refl _) (by simp only [maxLen]; omega) (by simp)
  rw [List.take_of_length_le (by simp)] at hs2
  refine wp_val hr (hK _ _ _ _ ?_ hs2 (k w.heap.size))
  rw [hdst]
  exact ha.put (Nat.le_of_ble_eq_true hd) _
end

theorem flat_bools : ∀ {css : List (List Value)}, (∀ x ∈ css, ∃ b, x = [.bool b]) → ∃ xs : List Bool, xs.length = css.length ∧ css.flatten = bls xs
  | [], _ => ⟨[], rfl, rfl⟩
  | x :: css, h => by
    obtain ⟨b, rfl⟩ := h x (by simp)
    obtain ⟨xs, h1, h2⟩ := flat_bools (css := css) (fun x hx => h x (by simp [hx]))
    exact ⟨b :: xs, by simp [h1], by rw [List.flatten_cons, h2]; rfl⟩
section
variable {H : Type} {enc : TypeId × Value → H} {P : Program} {w : World} {base : Nat} {spare : Nat → Bool} {held : Bool}
/-- An argument that is an array of truths. -/
theorem arr_bools {t e : TypeId} {n : Nat} {v : Value} {d : DataW H} {ps : List MemPlace} (h : P.underlying t = some (.array n e)) (he : P.underlying e = some .bool) (hc : P.cellsOf e = 1) (ht : P.cellsOf t = n) {r : Reach} {b0 : Nat} (hval : Value.okWide P w r b0 t v)
    (hd : DataW.Trod enc P w base spare held t v d ps) : ∃ xs : List Bool, v = .agg (bls xs).toArray ∧ xs.length = n := by
  simp only [Value.okWide, h] at hval
  obtain ⟨cs, rfl, h2, _⟩ := hval
  obtain ⟨fuel, hf⟩ := hd
  obtain ⟨css, h3, h4, h5⟩ := opens_array h hc (by omega) (opens_bool he) fuel _ _ hf
  obtain ⟨xs, h6, h7⟩ := flat_bools (css := css) (fun x hx => (h5 x hx).2)
  refine ⟨xs, ?_, by omega⟩
  rw [← h7, ← h4]
  simp [Value.cells]
end
end Go.Proofs.Ytcpohiegijpghaa.SL
