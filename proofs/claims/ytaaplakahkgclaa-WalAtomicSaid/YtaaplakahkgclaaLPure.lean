/- The disk's laws: plain lemmas. -/
import Derived.Test.YtaaplakahkgclaaDPure
namespace Go.Proofs.Ytaaplakahkgclaa.SL.D
set_option linter.unusedVariables false
set_option linter.unusedSimpArgs false
open Go Go.Proofs.Ytaaplakahkgclaa.SL Go.Proofs.Ytaaplakahkgclaa.SL.W

def Calm (lf : Int) (dn : Bool) : Prop := lf = 0 ∧ dn = false
theorem calm0 : Calm 0 false := ⟨rfl, rfl⟩
theorem pair5 {α β γ δ : Type} {a a' : Int} {b b' : α} {c c' : β} {d d' : γ} {e e' : δ} (h : (a, b, c, d, e) = (a', b', c', d', e')) : a = a' ∧ b = b' ∧ c = c' ∧ d = d' ∧ e = e' := by cases h; exact ⟨rfl, rfl, rfl, rfl, rfl⟩
section
variable {n : Nat} {wt wt2 : Wt} {lf lf2 : Int} {dn dn2 : Bool} {b e : Int} {bs ss s2 : List Int}
end
theorem read_ok {n : Nat} {b e : Int} {zs ss : List Int} {wt : Wt} (h : (0 ≤ b ∧ 256 * b + 256 ≤ n ∧ e = 0 ∧ zs = seenP ss wt b ∧ zs.length = 256) ∨ (¬ (0 ≤ b ∧ 256 * b + 256 ≤ n) ∧ e = 1 ∧ zs = [])) (h0 : 0 ≤ b) (h1 : 256 * b + 256 ≤ n) : e = 0 ∧ zs = seenP ss wt b ∧ zs.length = 256 := by
  rcases h with h | h
  · exact h.2.2
  · exact absurd ⟨h0, h1⟩ h.1
theorem seen_last {ss : List Int} {wt : Wt} {b : Int} {f : List Int} : seenP ss (wt ++ [(b, f)]) b = f := by
  rw [seenP, List.reverse_append]
  simp
theorem crash_nil {ss : List Int} {wt : Wt} : ∀ n, crashN ss wt [] n = ss
  | 0 => rfl
  | n + 1 => by rw [crashN, if_neg (by rw [List.getD_nil]; decide)]; exact crash_nil n
theorem crashP_nil {ss : List Int} {wt : Wt} : crashP ss wt [] = ss := crash_nil _
end Go.Proofs.Ytaaplakahkgclaa.SL.D
