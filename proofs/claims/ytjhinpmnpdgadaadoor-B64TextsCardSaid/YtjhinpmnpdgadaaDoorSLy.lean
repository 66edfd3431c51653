/- A cut: what holds behind a piece of code, told once. Arrays of numbers compared. -/
import Derived.Test.YtjhinpmnpdgadaaDoorSLx
import Derived.ChangeKeysEq
import Derived.Laws.StructEq
namespace Go.Proofs.YtjhinpmnpdgadaaDoor.SL
set_option linter.unusedVariables false
open Go
section
variable {X : Cx} {K : Post} {t : Env} {D : List Fact} {ψ : Env → List Fact → Prop}
def kcut (ψ : Env → List Fact → Prop) (K : Post) : Post := fun e t D => match e with | .normal => ∃ t' D', (∀ p ∈ t', p ∈ t) ∧ (∀ w0 W w, SAT w0 W D w → SAT w0 W D' w) ∧ ψ t' D' | e => K e t D
theorem RunC.cut {c d : Code} (ψ : Env → List Fact → Prop) (h1 : RunC X (kcut ψ K) c t D) (h2 : ∀ t D, ψ t D → RunC X K d t D) : RunC X K (.seq c d) t D := by
  refine RunC.seq fun ρ a w ha hw => wpIn_mono (h1 ρ a w ha hw) fun e a w hd => den_mono (Ext.refl ρ) ?_ hd
  intro e t D h
  cases e with
  | normal => obtain ⟨t', D', hp, hs, hk⟩ := h; exact RunC.weaken t' D' hp hs (h2 t' D' hk)
  | _ => exact h
end
section
variable {P : Program}
end
section
variable {X : Cx} {U : Tab} (hU : U.OK X.P) {t : Env} {D : List Fact} {φ : Env → List Fact → Prop}
include hU
end
end Go.Proofs.YtjhinpmnpdgadaaDoor.SL
