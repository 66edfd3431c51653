/- Appending where the old row is used further; clearing; copying. -/
import Derived.Test.YtjhinpmnpdgadaaDoorSLk
import Derived.Laws.IdiomCopy
import Derived.Laws.CopyRow
namespace Go.Proofs.YtjhinpmnpdgadaaDoor.SL
set_option linter.unusedVariables false
set_option linter.unusedSimpArgs false
open Go
section
variable {X : Cx} {U : Tab} (hU : U.OK X.P) {t : Env} {D : List Fact} {φ : Env → List Fact → Prop}
include hU

omit hU in
theorem nums_wrs (k : IntKind) (xs : List Int) (i : Nat) (ys : List Int) : wr (nums k xs) i (nums k ys) = nums k (xs.take i ++ ys ++ xs.drop (i + ys.length)) := by
  simp [wr, nums, List.map_take, List.map_drop]

end
end Go.Proofs.YtjhinpmnpdgadaaDoor.SL
