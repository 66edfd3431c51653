/- A law's argument that is a slice of structs of a byte and a truth: its cells. -/
import Derived.Test.YtjhinpmnpdgadaaDoorSLy
import Derived.Test.YtjhinpmnpdgadaaDoorSLs
namespace Go.Proofs.YtjhinpmnpdgadaaDoor.SL
set_option linter.unusedVariables false
open Go
abbrev Db := Int × Bool
def dosV : List Db → List Value
  | [] => []
  | r :: rs => .int .u8 r.1 :: .bool r.2 :: dosV rs
theorem dosV_len : ∀ rs : List Db, (dosV rs).length = rs.length * 2
  | [] => rfl
  | r :: rs => by rw [dosV, List.length_cons, List.length_cons, dosV_len rs, List.length_cons]; omega
section
variable {X : Cx} {U : Tab} (hU : U.OK X.P) {t : Env} {D : List Fact} {φ : Env → List Fact → Prop}
include hU
end
end Go.Proofs.YtjhinpmnpdgadaaDoor.SL
