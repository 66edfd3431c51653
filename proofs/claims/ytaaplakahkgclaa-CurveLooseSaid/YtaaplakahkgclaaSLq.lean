/- A constant text's bytes: a row that was just laid is marked; it can still be read. -/
import Derived.Test.YtaaplakahkgclaaSLp
namespace Go.Proofs.Ytaaplakahkgclaa.SL
set_option linter.unusedVariables false
set_option linter.unusedSimpArgs false
open Go

section
variable {X : Cx} {U : Tab} (hU : U.OK X.P) {t : Env} {D : List Fact} {φ : Env → List Fact → Prop}
include hU
end
end Go.Proofs.Ytaaplakahkgclaa.SL
