/- The disk's laws: plain lemmas. -/
import Derived.Test.YtcpohiegijpghaaDPure
namespace Go.Proofs.Ytcpohiegijpghaa.SL.D
set_option linter.unusedVariables false
set_option linter.unusedSimpArgs false
open Go Go.Proofs.Ytcpohiegijpghaa.SL Go.Proofs.Ytcpohiegijpghaa.SL.W

def Calm (lf : Int) (dn : Bool) : Prop := lf = 0 ∧ dn = false
theorem calm0 : Calm 0 false := ⟨rfl, rfl⟩
theorem act_calm {lf : Int} {dn : Bool} (h : Calm lf dn) : actP lf dn = (0, false) := by
  obtain ⟨rfl, rfl⟩ := h
  rfl
theorem pair4 {α β γ : Type} {a a' : Int} {b b' : α} {c c' : β} {d d' : γ} (h : (a, b, c, d) = (a', b', c', d')) : a = a' ∧ b = b' ∧ c = c' ∧ d = d' := by cases h; exact ⟨rfl, rfl, rfl, rfl⟩
theorem pair5 {α β γ δ : Type} {a a' : Int} {b b' : α} {c c' : β} {d d' : γ} {e e' : δ} (h : (a, b, c, d, e) = (a', b', c', d', e')) : a = a' ∧ b = b' ∧ c = c' ∧ d = d' ∧ e = e' := by cases h; exact ⟨rfl, rfl, rfl, rfl, rfl⟩
section
variable {n : Nat} {wt wt2 : Wt} {lf lf2 : Int} {dn dn2 : Bool} {b e : Int} {bs ss s2 : List Int}
theorem write_ok (h : (e, wt2, lf2, dn2) = writeP n wt lf dn b bs) (hc : Calm lf dn) (h0 : 0 ≤ b) (h1 : 256 * b + 256 ≤ n) (hl : bs.length = 256) : e = 0 ∧ Calm lf2 dn2 ∧ wt2 = wt ++ [(b, bs)] := by
  rw [writeP, if_neg (by omega), if_neg (by rw [hc.2]; decide), act_calm hc] at h
  obtain ⟨h2, h3, h4, h5⟩ := pair4 h
  exact ⟨h2, ⟨h4, h5⟩, h3⟩
theorem write_err (h : (e, wt2, lf2, dn2) = writeP n wt lf dn b bs) (hb : ¬ (0 ≤ b ∧ 256 * b + 256 ≤ n) ∨ bs.length ≠ 256) : e = 1 ∧ lf2 = lf ∧ dn2 = dn ∧ wt2 = wt := by
  rw [writeP, if_pos hb] at h
  obtain ⟨h2, h3, h4, h5⟩ := pair4 h
  exact ⟨h2, h4, h5, h3⟩
theorem write_calm (h : (e, wt2, lf2, dn2) = writeP n wt lf dn b bs) (hc : Calm lf dn) : Calm lf2 dn2 := by
  by_cases hb : ¬ (0 ≤ b ∧ 256 * b + 256 ≤ n) ∨ bs.length ≠ 256
  · obtain ⟨_, h4, h5, _⟩ := write_err h hb
    rw [h4, h5]; exact hc
  · exact (write_ok h hc (by omega) (by omega) (by omega)).2.1
theorem write_arm (h : (e, wt2, lf2, dn2) = writeP n wt lf dn b bs) (hd : dn = false) (hl1 : 1 < lf) (h0 : 0 ≤ b) (h1 : 256 * b + 256 ≤ n) (hl : bs.length = 256) : e = 0 ∧ lf2 = lf - 1 ∧ dn2 = false ∧ wt2 = wt ++ [(b, bs)] := by
  have ha : actP lf dn = (lf - 1, false) := by rw [actP, if_pos (by omega), decide_eq_false (by omega)]
  rw [writeP, if_neg (by omega), if_neg (by rw [hd]; decide), ha] at h
  obtain ⟨h2, h3, h4, h5⟩ := pair4 h
  exact ⟨h2, h4, h5, h3⟩
theorem write_gone (h : (e, wt2, lf2, dn2) = writeP n wt lf dn b bs) (hd : dn = true) (h0 : 0 ≤ b) (h1 : 256 * b + 256 ≤ n) (hl : bs.length = 256) : e = 11 ∧ lf2 = lf ∧ dn2 = true ∧ wt2 = wt := by
  rw [writeP, if_neg (by omega), if_pos hd] at h
  obtain ⟨h2, h3, h4, h5⟩ := pair4 h
  exact ⟨h2, h4, h5.trans hd, h3⟩
theorem sync_calm (h : (e, s2, wt2, lf2, dn2) = syncR ss wt lf dn) (hc : Calm lf dn) : e = 0 ∧ Calm lf2 dn2 ∧ s2 = syncP ss wt ∧ wt2 = [] := by
  rw [syncR, if_neg (by rw [hc.2]; decide), act_calm hc, if_neg (by decide)] at h
  obtain ⟨h2, h3, h4, h5, h6⟩ := pair5 h
  exact ⟨h2, ⟨h5, h6⟩, h3, h4⟩
theorem sync_last (h : (e, s2, wt2, lf2, dn2) = syncR ss wt lf dn) (hd : dn = false) (hl : lf = 1) : e = 11 ∧ lf2 = 0 ∧ dn2 = true ∧ s2 = ss ∧ wt2 = wt := by
  subst hd; subst hl
  have ha : actP 1 false = (0, true) := rfl
  rw [syncR, if_neg (by decide), ha, if_pos rfl] at h
  obtain ⟨h2, h3, h4, h5, h6⟩ := pair5 h
  exact ⟨h2, h5, h6, h3, h4⟩
theorem sync_gone (h : (e, s2, wt2, lf2, dn2) = syncR ss wt lf dn) (hd : dn = true) : e = 11 ∧ lf2 = lf ∧ dn2 = true ∧ s2 = ss ∧ wt2 = wt := by
  rw [syncR, if_pos hd] at h
  obtain ⟨h2, h3, h4, h5, h6⟩ := pair5 h
  exact ⟨h2, h5, h6.trans hd, h3, h4⟩
end
theorem read_ok {n : Nat} {b e : Int} {zs ss : List Int} {wt : Wt} (h : (0 ≤ b ∧ 256 * b + 256 ≤ n ∧ e = 0 ∧ zs = seenP ss wt b ∧ zs.length = 256) ∨ (¬ (0 ≤ b ∧ 256 * b + 256 ≤ n) ∧ e = 1 ∧ zs = [])) (h0 : 0 ≤ b) (h1 : 256 * b + 256 ≤ n) : e = 0 ∧ zs = seenP ss wt b ∧ zs.length = 256 := by
  rcases h with h | h
  · exact h.2.2
  · exact absurd ⟨h0, h1⟩ h.1
theorem seen_last {ss : List Int} {wt : Wt} {b : Int} {f : List Int} : seenP ss (wt ++ [(b, f)]) b = f := by
  rw [seenP, List.reverse_append]
  simp
theorem putP_whole {s f : List Int} (hs : s.length = 256) (hf : f.length = 256) : putP s (0, f) = f := by
  show s.take 0 ++ f ++ s.drop (0 + f.length) = f
  rw [List.take_zero, List.nil_append, Nat.zero_add, hf, List.drop_of_length_le (by omega), List.append_nil]
theorem crash_nil {ss : List Int} {wt : Wt} : ∀ n, crashN ss wt [] n = ss
  | 0 => rfl
  | n + 1 => by rw [crashN, if_neg (by rw [List.getD_nil]; decide)]; exact crash_nil n
theorem crashP_nil {ss : List Int} {wt : Wt} : crashP ss wt [] = ss := crash_nil _
theorem awake_x {x s2 s0 z1 z2 : List Int} {w3 w2 w1 : Wt} {n : Nat} {v : Int} (i : Nat) (hx : x = seenP s2 (dat []) 0) (hs : s2 = crashP s0 w3 [true, false]) (h3 : w3 = w2) (h2 : w2 = w1 ++ [(0, z2)]) (h1 : w1 = dat [] ++ [(0, z1)]) (e1 : z1 = fullL [1]) (e2 : z2 = fullL [2]) (h0 : s0 = List.replicate n 0) (hn : n = 512)
    (hv : (seenP (crashP (List.replicate 512 0) [(0, fullL [1]), (0, fullL [2])] [true, false]) [] 0).getD i 0 = v) : x.getD i 0 = v := by
  rw [hx, hs, h3, h2, h1, e1, e2, h0, hn]
  exact hv
theorem later_x {x s2 s0 fa fb : List Int} {w3 w2 : Wt} {n : Nat} {k0 k1 : Bool} (hi : x = s2) (hs : s2 = crashP s0 w3 [k0, k1]) (h3 : w3 = w2 ++ [(0, fb)]) (h2 : w2 = dat [] ++ [(0, fa)]) (h0 : s0 = List.replicate n 0) (hn : n = 256) (la : fa.length = 256) (lb : fb.length = 256) :
    x = if k1 = true then fb else if k0 = true then fa else List.replicate 256 0 := by
  rw [hi, hs, h3, h2, h0, hn]
  have e1 : ∀ s : List Int, s.length = 256 → putP s (0, fa) = fa := fun s h => putP_whole h la
  have e2 : ∀ s : List Int, s.length = 256 → putP s (0, fb) = fb := fun s h => putP_whole h lb
  show crashN (List.replicate 256 0) [(0, fa), (0, fb)] [k0, k1] 2 = _
  have hS : (List.replicate 256 (0 : Int)).length = 256 := List.length_replicate
  generalize List.replicate 256 (0 : Int) = S0 at *
  cases k0 <;> cases k1
  · rfl
  · show putP S0 (0, fb) = fb
    exact e2 _ hS
  · show putP S0 (0, fa) = fa
    exact e1 _ hS
  · show putP (putP S0 (0, fa)) (0, fb) = fb
    rw [e1 _ hS]
    exact e2 _ la
theorem ends_x {x s3 s2 s1 s0 z : List Int} {w : Wt} {n k : Nat} (hx : x = s3) (h3 : s3 = syncP s2 (dat [])) (h2 : s2 = crashP s1 w []) (h1 : s1 = s0) (h0 : s0 = z) (hz : z = List.replicate n 0) (hn : n = k) : x = List.replicate k 0 := by
  rw [hx, h3, h2, crashP_nil, h1, h0, hz, hn]
  rfl
end Go.Proofs.Ytcpohiegijpghaa.SL.D
