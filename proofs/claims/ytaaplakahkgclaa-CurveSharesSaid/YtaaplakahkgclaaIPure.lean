/- The inverse: plain laws. -/
import Derived.Test.YtaaplakahkgclaaEPure
import Derived.Test.YtaaplakahkgclaaGPure
import Derived.Test.YtaaplakahkgclaaSLzh
namespace Go.Proofs.Ytaaplakahkgclaa.SL.E
set_option linter.unusedVariables false
open Go Go.Proofs.Ytaaplakahkgclaa.SL Go.Proofs.Ytaaplakahkgclaa.SL.W Go.Proofs.Ytaaplakahkgclaa.SL.F Go.Proofs.Ytaaplakahkgclaa.SL.N
def EN : Nat := 57896044618658097711785492504343953926634992332820282019728792003956564819947
theorem pw_sq (v : Int) : v * v % P = pw v 2 := by rw [pw, show (2 : Nat) = 1 + 1 from rfl, Int.pow_succ, Int.pow_succ, Int.pow_zero, Int.one_mul]
theorem pw_by (v : Int) (m : Nat) : pw v m * v % P = pw v (m + 1) := by rw [pw, pw, Int.pow_succ, ← Int.emod_emod_of_dvd (v ^ m * v) (Int.dvd_refl P), Int.mul_emod, Int.emod_emod, ← Int.mul_emod, Int.emod_emod]
theorem pw_zero (v : Int) : pw v 0 = 1 := by rw [pw, Int.pow_zero]; decide
def bitsE : List Int := leB (EN : Int) 32
theorem bit_is : ∀ i : Fin 255, bitsE.getD (i.val / 8) 0 / 2 ^ (i.val % 8) % 2 = ((EN / 2 ^ i.val % 2 : Nat) : Int) := by decide +kernel
theorem dg_cast {xs : List Int} {v w : Int} (h : Dg xs v) (e : v = w) : Dg xs w := by rw [← e]; exact h
theorem inv_one {x : Int} {i : Int} (h0 : 0 ≤ i) (h1 : i ≤ 254) (hb : bitsE.getD (i / 8).toNat 0 / 2 ^ (min (i % 8).toNat 64) % 2 = 1) : pw x (EN / 2 ^ (i + 1).toNat) * pw x (EN / 2 ^ (i + 1).toNat) % P * x % P = pw x (EN / 2 ^ (i - 1 + 1).toNat) := by
  rw [show min (i % 8).toNat 64 = (i % 8).toNat by omega] at hb
  have hq := bit_is ⟨i.toNat, by omega⟩
  simp only [show i.toNat / 8 = (i / 8).toNat by omega, show i.toNat % 8 = (i % 8).toNat by omega] at hq
  rw [hb] at hq
  rw [pw_mul, pw_by, show (i + 1).toNat = i.toNat + 1 by omega, show (i - 1 + 1).toNat = i.toNat by omega, Nat.pow_succ, ← Nat.div_div_eq_div_mul]
  congr 1
  omega
theorem inv_zero {x : Int} {i : Int} (h0 : 0 ≤ i) (h1 : i ≤ 254) (hb : ¬ bitsE.getD (i / 8).toNat 0 / 2 ^ (min (i % 8).toNat 64) % 2 = 1) : pw x (EN / 2 ^ (i + 1).toNat) * pw x (EN / 2 ^ (i + 1).toNat) % P = pw x (EN / 2 ^ (i - 1 + 1).toNat) := by
  rw [show min (i % 8).toNat 64 = (i % 8).toNat by omega] at hb
  have hq := bit_is ⟨i.toNat, by omega⟩
  simp only [show i.toNat / 8 = (i / 8).toNat by omega, show i.toNat % 8 = (i % 8).toNat by omega] at hq
  rw [pw_mul, show (i + 1).toNat = i.toNat + 1 by omega, show (i - 1 + 1).toNat = i.toNat by omega, Nat.pow_succ, ← Nat.div_div_eq_div_mul]
  congr 1
  omega
end Go.Proofs.Ytaaplakahkgclaa.SL.E
