/- Rows of rows that are owned: written out, appended to, lent. -/
import Derived.Test.YtjhinpmnpdgadaaDoorSLs
namespace Go.Proofs.YtjhinpmnpdgadaaDoor.SL
set_option linter.unusedVariables false
set_option linter.unusedSimpArgs false
open Go

section
variable {X : Cx} {U : Tab} (hU : U.OK X.P) {t : Env} {D : List Fact} {φ : Env → List Fact → Prop}
include hU
end

/-! ### Many rows lent -/
theorem RowsOK.nil (k : IntKind) : RowsOK k [] := fun r hr => by cases hr
theorem RowsOK.cons {k : IntKind} {A : Option Addr} {c : Nat} {xs : List Int} {rs : List Ro} (h1 : In k xs) (h2 : xs.length ≤ c) (h3 : xs.length ≤ 140737488351232) (h : RowsOK k rs) : RowsOK k ((A, c, xs) :: rs) := fun r hr => by
  rcases List.mem_cons.1 hr with rfl | hr
  · exact ⟨h1, h2, h3⟩
  · exact h r hr
end Go.Proofs.YtjhinpmnpdgadaaDoor.SL
