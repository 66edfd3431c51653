/- The inverse: plain laws. -/
import Derived.Test.YtaaplakahkgclaaEPure
import Derived.Test.YtaaplakahkgclaaGPure
import Derived.Test.YtaaplakahkgclaaSLy
namespace Go.Proofs.Ytaaplakahkgclaa.SL.E
set_option linter.unusedVariables false
open Go Go.Proofs.Ytaaplakahkgclaa.SL Go.Proofs.Ytaaplakahkgclaa.SL.W Go.Proofs.Ytaaplakahkgclaa.SL.F Go.Proofs.Ytaaplakahkgclaa.SL.N
/-- P - 2. -/
def EN : Nat := 57896044618658097711785492504343953926634992332820282019728792003956564819947
theorem pw_sq (v : Int) : v * v % P = pw v 2 := by rw [pw, show (2 : Nat) = 1 + 1 from rfl, Int.pow_succ, Int.pow_succ, Int.pow_zero, Int.one_mul]
theorem pw_by (v : Int) (m : Nat) : pw v m * v % P = pw v (m + 1) := by rw [pw, pw, Int.pow_succ, ← Int.emod_emod_of_dvd (v ^ m * v) (Int.dvd_refl P), Int.mul_emod, Int.emod_emod, ← Int.mul_emod, Int.emod_emod]
theorem dg_cast {xs : List Int} {v w : Int} (h : Dg xs v) (e : v = w) : Dg xs w := by rw [← e]; exact h
end Go.Proofs.Ytaaplakahkgclaa.SL.E
