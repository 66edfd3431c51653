/- Appending so many zeros: append(x, make([]T, n)...). -/
import Derived.Test.YtjhinpmnpdgadaaDoorSLu
import Derived.Lib.AppendZeros
namespace Go.Proofs.YtjhinpmnpdgadaaDoor.SL
set_option linter.unusedVariables false
set_option linter.unusedSimpArgs false
open Go
section
variable {P : Program} {w : World}
end
section
variable {X : Cx} {U : Tab} (hU : U.OK X.P) {t : Env} {D : List Fact} {φ : Env → List Fact → Prop}
include hU
end
end Go.Proofs.YtjhinpmnpdgadaaDoor.SL
