/- The builtin copy, into a block's segments and into rows. -/
import Derived.Test.YtjhinpmnpdgadaaDoorSLo
namespace Go.Proofs.YtjhinpmnpdgadaaDoor.SL
set_option linter.unusedVariables false
set_option linter.unusedSimpArgs false
open Go

/-- us written over a part of xs. -/
def putl (xs : List Int) (i : Nat) (us : List Int) : List Int := xs.take i ++ us ++ xs.drop (i + us.length)
theorem In.putl {k : IntKind} {xs us : List Int} {i : Nat} (hx : In k xs) (hu : In k us) : In k (putl xs i us) := ((hx.take _).append hu).append (hx.drop _)
theorem Put.nums {k : IntKind} {xs us : List Int} {i p : Nat} (h : i + us.length ≤ xs.length) (hp : p = i) : Put (nums k xs) p (nums k us) (nums k (putl xs i us)) := by
  subst hp
  refine ⟨nums_wrs _ _ _ _, by simp only [nums_length]; omega⟩
section
variable {X : Cx} {U : Tab} (hU : U.OK X.P) {t : Env} {D : List Fact} {φ : Env → List Fact → Prop}
include hU
end
end Go.Proofs.YtjhinpmnpdgadaaDoor.SL
