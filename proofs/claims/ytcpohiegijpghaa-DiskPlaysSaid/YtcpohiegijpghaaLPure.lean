/- The disk's laws: plain lemmas. -/
import Derived.Test.YtcpohiegijpghaaDPure
namespace Go.Proofs.Ytcpohiegijpghaa.SL.D
set_option linter.unusedVariables false
set_option linter.unusedSimpArgs false
open Go Go.Proofs.Ytcpohiegijpghaa.SL Go.Proofs.Ytcpohiegijpghaa.SL.W

def Calm (lf : Int) (dn : Bool) : Prop := lf = 0 ∧ dn = false
theorem calm0 : Calm 0 false := ⟨rfl, rfl⟩
theorem act_calm {lf : Int} {dn : Bool} (h : Calm lf dn) : actP lf dn = (0, false) := by
  obtain ⟨rfl, rfl⟩ := h
  rfl
theorem pair4 {α β γ : Type} {a a' : Int} {b b' : α} {c c' : β} {d d' : γ} (h : (a, b, c, d) = (a', b', c', d')) : a = a' ∧ b = b' ∧ c = c' ∧ d = d' := by cases h; exact ⟨rfl, rfl, rfl, rfl⟩
theorem pair5 {α β γ δ : Type} {a a' : Int} {b b' : α} {c c' : β} {d d' : γ} {e e' : δ} (h : (a, b, c, d, e) = (a', b', c', d', e')) : a = a' ∧ b = b' ∧ c = c' ∧ d = d' ∧ e = e' := by cases h; exact ⟨rfl, rfl, rfl, rfl, rfl⟩
section
variable {n : Nat} {wt wt2 : Wt} {lf lf2 : Int} {dn dn2 : Bool} {b e : Int} {bs ss s2 : List Int}
theorem write_ok (h : (e, wt2, lf2, dn2) = writeP n wt lf dn b bs) (hc : Calm lf dn) (h0 : 0 ≤ b) (h1 : 256 * b + 256 ≤ n) (hl : bs.length = 256) : e = 0 ∧ Calm lf2 dn2 ∧ wt2 = wt ++ [(b, bs)] := by
  rw [writeP, if_neg (by omega), if_neg (by rw [hc.2]; decide), act_calm hc] at h
  obtain ⟨h2, h3, h4, h5⟩ := pair4 h
  exact ⟨h2, ⟨h4, h5⟩, h3⟩
theorem write_err (h : (e, wt2, lf2, dn2) = writeP n wt lf dn b bs) (hb : ¬ (0 ≤ b ∧ 256 * b + 256 ≤ n) ∨ bs.length ≠ 256) : e = 1 ∧ lf2 = lf ∧ dn2 = dn ∧ wt2 = wt := by
  rw [writeP, if_pos hb] at h
  obtain ⟨h2, h3, h4, h5⟩ := pair4 h
  exact ⟨h2, h4, h5, h3⟩
theorem write_calm (h : (e, wt2, lf2, dn2) = writeP n wt lf dn b bs) (hc : Calm lf dn) : Calm lf2 dn2 := by
  by_cases hb : ¬ (0 ≤ b ∧ 256 * b + 256 ≤ n) ∨ bs.length ≠ 256
  · obtain ⟨_, h4, h5, _⟩ := write_err h hb
    rw [h4, h5]; exact hc
  · exact (write_ok h hc (by omega) (by omega) (by omega)).2.1
theorem write_arm (h : (e, wt2, lf2, dn2) = writeP n wt lf dn b bs) (hd : dn = false) (hl1 : 1 < lf) (h0 : 0 ≤ b) (h1 : 256 * b + 256 ≤ n) (hl : bs.length = 256) : e = 0 ∧ lf2 = lf - 1 ∧ dn2 = false ∧ wt2 = wt ++ [(b, bs)] := by
  have ha : actP lf dn = (lf - 1, false) := by rw [actP, if_pos (by omega), decide_eq_false (by omega)]
  rw [writeP, if_neg (by omega), if_neg (by rw [hd]; decide), ha] at h
  obtain ⟨h2, h3, h4, h5⟩ := pair4 h
  exact ⟨h2, h4, h5, h3⟩
theorem write_gone (h : (e, wt2, lf2, dn2) = writeP n wt lf dn b bs) (hd : dn = true) (h0 : 0 ≤ b) (h1 : 256 * b + 256 ≤ n) (hl : bs.length = 256) : e = 11 ∧ lf2 = lf ∧ dn2 = true ∧ wt2 = wt := by
  rw [writeP, if_neg (by omega), if_pos hd] at h
  obtain ⟨h2, h3, h4, h5⟩ := pair4 h
  exact ⟨h2, h4, h5.trans hd, h3⟩
end
theorem read_ok {n : Nat} {b e : Int} {zs ss : List Int} {wt : Wt} (h : (0 ≤ b ∧ 256 * b + 256 ≤ n ∧ e = 0 ∧ zs = seenP ss wt b ∧ zs.length = 256) ∨ (¬ (0 ≤ b ∧ 256 * b + 256 ≤ n) ∧ e = 1 ∧ zs = [])) (h0 : 0 ≤ b) (h1 : 256 * b + 256 ≤ n) : e = 0 ∧ zs = seenP ss wt b ∧ zs.length = 256 := by
  rcases h with h | h
  · exact h.2.2
  · exact absurd ⟨h0, h1⟩ h.1
theorem awake_x {x s2 s0 z1 z2 : List Int} {w3 w2 w1 : Wt} {n : Nat} {v : Int} (i : Nat) (hx : x = seenP s2 (dat []) 0) (hs : s2 = crashP s0 w3 [true, false]) (h3 : w3 = w2) (h2 : w2 = w1 ++ [(0, z2)]) (h1 : w1 = dat [] ++ [(0, z1)]) (e1 : z1 = fullL [1]) (e2 : z2 = fullL [2]) (h0 : s0 = List.replicate n 0) (hn : n = 512)
    (hv : (seenP (crashP (List.replicate 512 0) [(0, fullL [1]), (0, fullL [2])] [true, false]) [] 0).getD i 0 = v) : x.getD i 0 = v := by
  rw [hx, hs, h3, h2, h1, e1, e2, h0, hn]
  exact hv
end Go.Proofs.Ytcpohiegijpghaa.SL.D
