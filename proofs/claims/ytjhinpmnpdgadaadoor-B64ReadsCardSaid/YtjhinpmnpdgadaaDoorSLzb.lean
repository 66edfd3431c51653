/- Rows that are owned together; a row of structs of a number and a slice; objects: what is owned, as one fact. -/
import Derived.Test.YtjhinpmnpdgadaaDoorSLza
import Derived.Test.YtjhinpmnpdgadaaDoorSLx
import Derived.Test.YtjhinpmnpdgadaaDoorSLt
namespace Go.Proofs.YtjhinpmnpdgadaaDoor.SL
set_option linter.unusedVariables false
open Go

/-- A row's structs: a number and a slice. -/
abbrev Ch := Int × Ro
def chV : List Ch → List Value
  | [] => []
  | r :: rs => .int .i64 r.1 :: .slice r.2.1 r.2.2.2.length r.2.2.1 :: chV rs
theorem chV_len : ∀ rs : List Ch, (chV rs).length = rs.length * 2
  | [] => rfl
  | r :: rs => by rw [chV, List.length_cons, List.length_cons, chV_len rs, List.length_cons]; omega
def ChOK (k : IntKind) (rs : List Ch) : Prop := ∀ r ∈ rs, fits .i64 r.1 ∧ In k r.2.2.2 ∧ r.2.2.2.length ≤ r.2.2.1 ∧ r.2.2.2.length ≤ 140737488351232
theorem ChOK.nil (k : IntKind) : ChOK k [] := fun r hr => by cases hr
theorem ChOK.append {k : IntKind} {a b : List Ch} (h : ChOK k a) (g : ChOK k b) : ChOK k (a ++ b) := fun r hr => (List.mem_append.1 hr).elim (h r) (g r)
theorem ChOK.one {k : IntKind} {b : Int} {A : Option Addr} {c : Nat} {xs : List Int} (h0 : fits .i64 b) (h1 : In k xs) (h2 : xs.length ≤ c) (h3 : xs.length ≤ 140737488351232) : ChOK k [(b, A, c, xs)] := fun r hr => by
  rcases List.mem_cons.1 hr with rfl | hr
  · exact ⟨h0, h1, h2, h3⟩
  · cases hr
/-! ### Room -/
section
variable {X : Cx} {U : Tab} (hU : U.OK X.P) {t : Env} {D : List Fact} {φ : Env → List Fact → Prop}
include hU
theorem Step.cap {d : Nat} {ty : TypeId} {x : Operand} (e : Nat) (A : Option Addr) (n c : Nat) (hty : look U.und ty = some (.slice e)) (hx : ev t x = some (.slice A n c)) (hd : Nat.ble (d + 1) X.N = true)
    (k : φ (put t d (.int .i64 (c : Int))) D) : Step X (some d) (.call { callee := .builtin .cap, args := #[x], argTypes := #[ty] }) t D φ := by
  intro o hdst hop ρ a w ha hw Q K hK
  have hr : (execOp a.eval o).run X.P w = .ok (.value (.int .i64 (c : Int))) w := by
    unfold execOp
    simp only [hop, resolve, invoke, builtin, Sem.run_bind, Sem.run_pure, Result.andThen_ok, List.map_toArray, List.map_cons, List.map_nil]
    simp [Builtin.cap_, ha.ev hx, hU.run_und hty, goInt]
  refine wp_val hr (hK _ _ _ _ ?_ hw k)
  rw [hdst]
  exact ha.put (Nat.le_of_ble_eq_true hd) _
end
/-! ### Objects -/
section
variable {X : Cx} {U : Tab} {K : Post} {t : Env} {D : List Fact} {ops : Array Oper} {i : Nat}
end

/-! ### Structs of a number and a slice -/
section
variable {X : Cx} {U : Tab} (hU : U.OK X.P) {t : Env} {D : List Fact} {φ : Env → List Fact → Prop}
include hU
end

/-! ### Rows of truths -/
def bls (ks : List Bool) : List Value := ks.map .bool
theorem bls_len (ks : List Bool) : (bls ks).length = ks.length := List.length_map _
section
variable {X : Cx} {U : Tab} (hU : U.OK X.P) {t : Env} {D : List Fact} {φ : Env → List Fact → Prop}
include hU
end

section
variable {H : Type} {enc : TypeId × Value → H} {P : Program} {w : World} {base : Nat} {spare : Nat → Bool} {held : Bool}
end
end Go.Proofs.YtjhinpmnpdgadaaDoor.SL
