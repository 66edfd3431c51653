/- Rows that are owned together; a row of structs of a number and a slice; objects: what is owned, as one fact. -/
import Derived.Test.YtkehpipialmneaaSLza
import Derived.Test.YtkehpipialmneaaSLx
import Derived.Test.YtkehpipialmneaaSLt
namespace Go.Proofs.Ytkehpipialmneaa.SL
set_option linter.unusedVariables false
open Go

/-- A row's structs: a number and a slice. -/
abbrev Ch := Int × Ro
def ChOK (k : IntKind) (rs : List Ch) : Prop := ∀ r ∈ rs, fits .i64 r.1 ∧ In k r.2.2.2 ∧ r.2.2.2.length ≤ r.2.2.1 ∧ r.2.2.2.length ≤ 140737488351232
theorem ChOK.nil (k : IntKind) : ChOK k [] := fun r hr => by cases hr
theorem ChOK.append {k : IntKind} {a b : List Ch} (h : ChOK k a) (g : ChOK k b) : ChOK k (a ++ b) := fun r hr => (List.mem_append.1 hr).elim (h r) (g r)
theorem ChOK.one {k : IntKind} {b : Int} {A : Option Addr} {c : Nat} {xs : List Int} (h0 : fits .i64 b) (h1 : In k xs) (h2 : xs.length ≤ c) (h3 : xs.length ≤ 140737488351232) : ChOK k [(b, A, c, xs)] := fun r hr => by
  rcases List.mem_cons.1 hr with rfl | hr
  · exact ⟨h0, h1, h2, h3⟩
  · cases hr
/-! ### Room -/
/-- A row's beginning, with all its room. -/
theorem SAT.rowCut {w0 : World} {W : FP} {D : List Fact} {w : World} {T n c : Nat} {A : Option Addr} {cs : List Value} (k0 m : Nat) (hD : D[k0]? = some (row T 1 (.slice A n c) n cs)) (hm : m ≤ n) (h : SAT w0 W D w) : SAT w0 W (row T 1 (.slice A m c) m (cs.take m) :: D.eraseIdx k0) w := by
  refine (h.pull hD).turn _ rfl fun fp hp => ?_
  obtain ⟨h1, h2, h3⟩ := hp
  refine ⟨by rw [List.length_take]; omega, h2, ?_⟩
  rcases h3 with ⟨h3, h4⟩ | ⟨b, cap, ex, h3, h4, h5, h6, h7, h8⟩
  · injection h3 with e1 e2 e3
    subst e1; subst e3
    exact .inl ⟨by rw [show m = 0 by omega], by omega⟩
  · injection h3 with e1 e2 e3
    subst e1; subst e3
    refine .inr ⟨b, c, cs.drop m ++ ex, rfl, ?_, by omega, h6, ?_, h8⟩
    · rw [h4, ← List.append_assoc, List.take_append_drop]
    · rw [← List.append_assoc, List.take_append_drop]; exact h7
section
variable {X : Cx} {U : Tab} (hU : U.OK X.P) {t : Env} {D : List Fact} {φ : Env → List Fact → Prop}
include hU
theorem Step.cap {d : Nat} {ty : TypeId} {x : Operand} (e : Nat) (A : Option Addr) (n c : Nat) (hty : look U.und ty = some (.slice e)) (hx : ev t x = some (.slice A n c)) (hd : Nat.ble (d + 1) X.N = true)
    (k : φ (put t d (.int .i64 (c : Int))) D) : Step X (some d) (.call { callee := .builtin .cap, args := #[x], argTypes := #[ty] }) t D φ := by
  intro o hdst hop ρ a w ha hw Q K hK
  have hr : (execOp a.eval o).run X.P w = .ok (.value (.int .i64 (c : Int))) w := by
    unfold execOp
    simp only [hop, resolve, invoke, builtin, Sem.run_bind, Sem.run_pure, Result.andThen_ok, List.map_toArray, List.map_cons, List.map_nil]
    simp [Builtin.cap_, ha.ev hx, hU.run_und hty, goInt]
  refine wp_val hr (hK _ _ _ _ ?_ hw k)
  rw [hdst]
  exact ha.put (Nat.le_of_ble_eq_true hd) _
end
/-! ### Objects -/
section
variable {X : Cx} {U : Tab} {K : Post} {t : Env} {D : List Fact} {ops : Array Oper} {i : Nat}
end

/-! ### Structs of a number and a slice -/
section
variable {X : Cx} {U : Tab} (hU : U.OK X.P) {t : Env} {D : List Fact} {φ : Env → List Fact → Prop}
include hU
end

/-! ### Rows of truths -/
section
variable {X : Cx} {U : Tab} (hU : U.OK X.P) {t : Env} {D : List Fact} {φ : Env → List Fact → Prop}
include hU
end
end Go.Proofs.Ytkehpipialmneaa.SL
