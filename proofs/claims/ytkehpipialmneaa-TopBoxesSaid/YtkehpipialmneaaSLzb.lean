/- Rows that are owned together; a row of structs of a number and a slice; objects: what is owned, as one fact. -/
import Derived.Test.YtkehpipialmneaaSLza
import Derived.Test.YtkehpipialmneaaSLx
import Derived.Test.YtkehpipialmneaaSLt
namespace Go.Proofs.Ytkehpipialmneaa.SL
set_option linter.unusedVariables false
open Go

/-- Many rows that are owned together, and written no more. -/
def rws (k : IntKind) (G : List Ro) : Fact where
  own := true
  P := (vws (rowsL k G)).P
  loc := (vws (rowsL k G)).loc
  bnd := (vws (rowsL k G)).bnd
theorem tells_rws {k : IntKind} {G : List Ro} {A : Option Addr} {c : Nat} {xs : List Int} (h : (A, c, xs) ∈ G) : Tells (rws k G) A (nums k xs) := fun w fp hp =>
  tells_vws (L := rowsL k G) (List.mem_map.2 ⟨(A, c, xs), h, rfl⟩) w fp hp
theorem SAT.rws0 {w0 : World} {W : FP} {D : List Fact} {w : World} (k : IntKind) (h : SAT w0 W D w) : SAT w0 W (rws k [] :: D) w := by
  obtain ⟨fr, O, R, h1, h2, h3, h4⟩ := h
  refine ⟨fr, O, R, ⟨fun _ => False, ⟨fun _ h => h.elim, fun r hr => (by cases hr)⟩, ?_⟩, h2, h3, h4⟩
  exact ⟨fun _ h => h.elim, sat_mono h1 (fun b hb => ⟨hb, fun h => h⟩) (fun _ h => h)⟩
theorem SAT.rwsSub {w0 : World} {W : FP} {D : List Fact} {w : World} {k : IntKind} {G : List Ro} (h : SAT w0 W (rws k G :: D) w) (G' : List Ro) (hs : ∀ r ∈ G', r ∈ G) : SAT w0 W (rws k G' :: D) w :=
  h.turn (rws k G') rfl fun fp hp => ⟨hp.1, fun r hr h0 => by
    obtain ⟨r0, hr0, rfl⟩ := List.mem_map.1 hr
    exact hp.2 _ (List.mem_map.2 ⟨r0, hs r0 hr0, rfl⟩) h0⟩
/-- A row that is owned goes in. -/
theorem SAT.rwsPush {w0 : World} {W : FP} {D : List Fact} {w : World} {k : IntKind} {G : List Ro} {f : Fact} (A : Option Addr) (c : Nat) (xs : List Int) (hf : f.own = true) (ht : Tells f A (nums k xs)) (h : SAT w0 W (f :: rws k G :: D) w) : SAT w0 W (rws k ((A, c, xs) :: G) :: D) w := by
  obtain ⟨fr, O, R, ⟨fp, hp, h1⟩, h2, h3, h4⟩ := h
  rw [hf] at h1
  obtain ⟨ho, gp, hg, h5⟩ := h1
  have h5 : (∀ b, gp b → O b ∧ ¬ fp b) ∧ sat D w (fun b => (O b ∧ ¬ fp b) ∧ ¬ gp b) R := h5
  obtain ⟨q, hq, hv⟩ := ht w fp hp
  refine ⟨fr, O, R, ⟨fun b => q b ∨ gp b, ⟨fun b hb => hb.elim (hv.1 b) (hg.1 b), fun r hr h0 => ?_⟩, fun b hb => hb.elim (fun h => ho b (hq b h)) (fun h => (h5.1 b h).1), sat_mono h5.2 (fun b hb => ⟨hb.1.1, fun h => h.elim (fun h => hb.1.2 (hq b h)) hb.2⟩) (fun _ h => h)⟩, h2, h3, h4⟩
  rcases List.mem_cons.1 hr with rfl | hr
  · obtain ⟨a, e1, e2, e3⟩ := hv.2 h0
    exact ⟨a, e1, .inl e2, e3⟩
  · obtain ⟨a, e1, e2, e3⟩ := hg.2 r hr h0
    exact ⟨a, e1, .inr e2, e3⟩

/-- A row's structs: a number and a slice. -/
abbrev Ch := Int × Ro
def chV : List Ch → List Value
  | [] => []
  | r :: rs => .int .i64 r.1 :: .slice r.2.1 r.2.2.2.length r.2.2.1 :: chV rs
theorem chV_len : ∀ rs : List Ch, (chV rs).length = rs.length * 2
  | [] => rfl
  | r :: rs => by rw [chV, List.length_cons, List.length_cons, chV_len rs, List.length_cons]; omega
theorem chV_append : ∀ a b : List Ch, chV (a ++ b) = chV a ++ chV b
  | [], b => rfl
  | r :: a, b => by rw [List.cons_append, chV, chV, chV_append a b]; rfl
theorem chV_get : ∀ {rs : List Ch} {i : Nat} {k : Int} {A : Option Addr} {c : Nat} {xs : List Int}, rs[i]? = some (k, A, c, xs) → ((chV rs).drop (i * 2)).take 2 = [.int .i64 k, .slice A xs.length c]
  | [], i, k, A, c, xs, h => by simp at h
  | r :: rs, 0, k, A, c, xs, h => by
    simp only [List.getElem?_cons_zero, Option.some.injEq] at h
    subst h
    rfl
  | r :: rs, i + 1, k, A, c, xs, h => by
    rw [List.getElem?_cons_succ] at h
    rw [show (i + 1) * 2 = i * 2 + 1 + 1 by omega, chV, List.drop_succ_cons, List.drop_succ_cons]
    exact chV_get h
theorem chV_one : ∀ {rs : List Ch}, ∀ u ∈ chV rs, u.oneCell' = true
  | [], u, h => by cases h
  | r :: rs, u, h => by
    rcases List.mem_cons.1 h with rfl | h
    · rfl
    · rcases List.mem_cons.1 h with rfl | h
      · rfl
      · exact chV_one u h
def ChOK (k : IntKind) (rs : List Ch) : Prop := ∀ r ∈ rs, fits .i64 r.1 ∧ In k r.2.2.2 ∧ r.2.2.2.length ≤ r.2.2.1 ∧ r.2.2.2.length ≤ 140737488351232
theorem ch_at {k : IntKind} {rs : List Ch} (h : ChOK k rs) {i : Nat} (hi : i < rs.length) : ∃ b A c xs, rs[i]? = some (b, A, c, xs) ∧ fits .i64 b ∧ In k xs ∧ xs.length ≤ c ∧ xs.length ≤ 140737488351232 :=
  ⟨rs[i].1, rs[i].2.1, rs[i].2.2.1, rs[i].2.2.2, List.getElem?_eq_getElem hi, h _ (List.getElem_mem hi)⟩
theorem ChOK.nil (k : IntKind) : ChOK k [] := fun r hr => by cases hr
theorem ChOK.append {k : IntKind} {a b : List Ch} (h : ChOK k a) (g : ChOK k b) : ChOK k (a ++ b) := fun r hr => (List.mem_append.1 hr).elim (h r) (g r)
theorem ChOK.one {k : IntKind} {b : Int} {A : Option Addr} {c : Nat} {xs : List Int} (h0 : fits .i64 b) (h1 : In k xs) (h2 : xs.length ≤ c) (h3 : xs.length ≤ 140737488351232) : ChOK k [(b, A, c, xs)] := fun r hr => by
  rcases List.mem_cons.1 hr with rfl | hr
  · exact ⟨h0, h1, h2, h3⟩
  · cases hr
theorem loadv_ch {U : Tab} {ty : TypeId} {rs : List Ch} {i : Nat} {b : Int} {c : Nat} {A : Option Addr} {xs : List Int} (hty : isRowTy U ty = some true) (hsz : look U.sz ty = some 2) (h : rs[i]? = some (b, A, c, xs)) : loadv U ty (chV rs) (i * 2) = some (.agg #[.int .i64 b, .slice A xs.length c]) := by
  unfold loadv
  rw [hty, hsz]
  have hi := (List.getElem?_eq_some_iff.1 h).1
  have : Nat.ble (i * 2 + 2) (chV rs).length = true := Nat.ble_eq_true_of_le (by rw [chV_len]; omega)
  simp only [this, chV_get h]
theorem tells_ch {k : IntKind} {G : List Ro} {rs : List Ch} {i : Nat} {b : Int} {c : Nat} {A : Option Addr} {xs : List Int} (hG : ∀ r ∈ rs, r.2 ∈ G) (h : rs[i]? = some (b, A, c, xs)) : Tells (rws k G) A (nums k xs) :=
  tells_rws (c := c) (hG _ (List.mem_of_getElem? h))
theorem tells_rwsAt {k : IntKind} {G : List Ro} {rs : List Ro} {i : Nat} {c : Nat} {A : Option Addr} {xs : List Int} (hG : ∀ r ∈ rs, r ∈ G) (h : rs[i]? = some (A, c, xs)) : Tells (rws k G) A (nums k xs) :=
  tells_rws (c := c) (hG _ (List.mem_of_getElem? h))

/-! ### Room -/
/-- A row's beginning, with all its room. -/
theorem SAT.rowCut {w0 : World} {W : FP} {D : List Fact} {w : World} {T n c : Nat} {A : Option Addr} {cs : List Value} (k0 m : Nat) (hD : D[k0]? = some (row T 1 (.slice A n c) n cs)) (hm : m ≤ n) (h : SAT w0 W D w) : SAT w0 W (row T 1 (.slice A m c) m (cs.take m) :: D.eraseIdx k0) w := by
  refine (h.pull hD).turn _ rfl fun fp hp => ?_
  obtain ⟨h1, h2, h3⟩ := hp
  refine ⟨by rw [List.length_take]; omega, h2, ?_⟩
  rcases h3 with ⟨h3, h4⟩ | ⟨b, cap, ex, h3, h4, h5, h6, h7, h8⟩
  · injection h3 with e1 e2 e3
    subst e1; subst e3
    exact .inl ⟨by rw [show m = 0 by omega], by omega⟩
  · injection h3 with e1 e2 e3
    subst e1; subst e3
    refine .inr ⟨b, c, cs.drop m ++ ex, rfl, ?_, by omega, h6, ?_, h8⟩
    · rw [h4, ← List.append_assoc, List.take_append_drop]
    · rw [← List.append_assoc, List.take_append_drop]; exact h7
section
variable {X : Cx} {U : Tab} (hU : U.OK X.P) {t : Env} {D : List Fact} {φ : Env → List Fact → Prop}
include hU
theorem Step.cap {d : Nat} {ty : TypeId} {x : Operand} (e : Nat) (A : Option Addr) (n c : Nat) (hty : look U.und ty = some (.slice e)) (hx : ev t x = some (.slice A n c)) (hd : Nat.ble (d + 1) X.N = true)
    (k : φ (put t d (.int .i64 (c : Int))) D) : Step X (some d) (.call { callee := .builtin .cap, args := #[x], argTypes := #[ty] }) t D φ := by
  intro o hdst hop ρ a w ha hw Q K hK
  have hr : (execOp a.eval o).run X.P w = .ok (.value (.int .i64 (c : Int))) w := by
    unfold execOp
    simp only [hop, resolve, invoke, builtin, Sem.run_bind, Sem.run_pure, Result.andThen_ok, List.map_toArray, List.map_cons, List.map_nil]
    simp [Builtin.cap_, ha.ev hx, hU.run_und hty, goInt]
  refine wp_val hr (hK _ _ _ _ ?_ hw k)
  rw [hdst]
  exact ha.put (Nat.le_of_ble_eq_true hd) _
end
/-! ### Objects -/
theorem SAT.shutX {α : Type} {p : α → Prop} {L : α → List Fact} {D : List Fact} {w0 : World} {W : FP} {w : World} (ks : List Nat) (x : α) (E : List Fact) (h : SAT w0 W D w) (hd : pulls ks D = (L x, E)) (hp : p x) (ho : (L x).all (·.own) = true) : SAT w0 W (exF p L :: E) w := by
  have h1 := h.perm (pulls_perm ks D)
  rw [hd] at h1
  exact exF_close x hp (fun f hf => List.all_eq_true.1 ho f hf) h1
section
variable {X : Cx} {U : Tab} {K : Post} {t : Env} {D : List Fact} {ops : Array Oper} {i : Nat}
theorem RunC.opn {c : Code} {α : Type} {p : α → Prop} {L : α → List Fact} (k0 : Nat) (hk : D[k0]? = some (exF p L)) (h : ∀ x, p x → RunC X K c t (L x ++ D.eraseIdx k0)) : RunC X K c t D := fun ρ a w ha hw => by
  obtain ⟨x, hp, hs⟩ := exF_open (hw.pull hk)
  exact h x hp ρ a w ha hs
theorem RunR.opn {α : Type} {p : α → Prop} {L : α → List Fact} (k0 : Nat) (hk : D[k0]? = some (exF p L)) (h : ∀ x, p x → RunR X K ops i t (L x ++ D.eraseIdx k0)) : RunR X K ops i t D := fun ρ a w ha hw => by
  obtain ⟨x, hp, hs⟩ := exF_open (hw.pull hk)
  exact h x hp ρ a w ha hs
theorem RunU.opn {c : Nat} {α : Type} {p : α → Prop} {L : α → List Fact} {Θ : List Fact} {ds : List Nat} {l : Array Bool} (k0 : Nat) (hk : D[k0]? = some (exF p L)) (h : ∀ x, p x → RunU X K ops Θ ds c l t (L x ++ D.eraseIdx k0)) : RunU X K ops Θ ds c l t D := fun ρ a w ha hw => by
  obtain ⟨x, hp, hs⟩ := exF_open (hw.pull hk)
  exact h x hp ρ a w ha hs
end
end Go.Proofs.Ytkehpipialmneaa.SL
