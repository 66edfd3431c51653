/- The disk's laws: plain lemmas. -/
import Derived.Test.YtlibhidhfbecbaaDPure
namespace Go.Proofs.Ytlibhidhfbecbaa.SL.D
set_option linter.unusedVariables false
set_option linter.unusedSimpArgs false
open Go Go.Proofs.Ytlibhidhfbecbaa.SL Go.Proofs.Ytlibhidhfbecbaa.SL.W

def Calm (lf : Int) (dn : Bool) : Prop := lf = 0 ∧ dn = false
theorem calm0 : Calm 0 false := ⟨rfl, rfl⟩
theorem act_calm {lf : Int} {dn : Bool} (h : Calm lf dn) : actP lf dn = (0, false) := by
  obtain ⟨rfl, rfl⟩ := h
  rfl
theorem pair4 {α β γ : Type} {a a' : Int} {b b' : α} {c c' : β} {d d' : γ} (h : (a, b, c, d) = (a', b', c', d')) : a = a' ∧ b = b' ∧ c = c' ∧ d = d' := by cases h; exact ⟨rfl, rfl, rfl, rfl⟩
theorem pair5 {α β γ δ : Type} {a a' : Int} {b b' : α} {c c' : β} {d d' : γ} {e e' : δ} (h : (a, b, c, d, e) = (a', b', c', d', e')) : a = a' ∧ b = b' ∧ c = c' ∧ d = d' ∧ e = e' := by cases h; exact ⟨rfl, rfl, rfl, rfl, rfl⟩
section
variable {n : Nat} {wt wt2 : Wt} {lf lf2 : Int} {dn dn2 : Bool} {b e : Int} {bs ss s2 : List Int}
theorem write_ok (h : (e, wt2, lf2, dn2) = writeP n wt lf dn b bs) (hc : Calm lf dn) (h0 : 0 ≤ b) (h1 : 256 * b + 256 ≤ n) (hl : bs.length = 256) : e = 0 ∧ Calm lf2 dn2 ∧ wt2 = wt ++ [(b, bs)] := by
  rw [writeP, if_neg (by omega), if_neg (by rw [hc.2]; decide), act_calm hc] at h
  obtain ⟨h2, h3, h4, h5⟩ := pair4 h
  exact ⟨h2, ⟨h4, h5⟩, h3⟩
end
theorem read_ok {n : Nat} {b e : Int} {zs ss : List Int} {wt : Wt} (h : (0 ≤ b ∧ 256 * b + 256 ≤ n ∧ e = 0 ∧ zs = seenP ss wt b ∧ zs.length = 256) ∨ (¬ (0 ≤ b ∧ 256 * b + 256 ≤ n) ∧ e = 1 ∧ zs = [])) (h0 : 0 ≤ b) (h1 : 256 * b + 256 ≤ n) : e = 0 ∧ zs = seenP ss wt b ∧ zs.length = 256 := by
  rcases h with h | h
  · exact h.2.2
  · exact absurd ⟨h0, h1⟩ h.1
theorem seen_last {ss : List Int} {wt : Wt} {b : Int} {f : List Int} : seenP ss (wt ++ [(b, f)]) b = f := by
  rw [seenP, List.reverse_append]
  simp
end Go.Proofs.Ytlibhidhfbecbaa.SL.D
