/- What is seen is what a Sync makes safe. -/
import Derived.Test.YtcpohiegijpghaaLPure
import Derived.Test.YtcpohiegijpghaaSLzh
namespace Go.Proofs.Ytcpohiegijpghaa.SL.D
set_option linter.unusedVariables false
set_option linter.unusedSimpArgs false
open Go Go.Proofs.Ytcpohiegijpghaa.SL Go.Proofs.Ytcpohiegijpghaa.SL.W

theorem not_f {b : Bool} (h : (!b) = false) : b = true := by cases b <;> simp_all
def Small (l : List Sd) (n : Nat) : Prop := ∀ (i : Nat) (k a : Int) (A : Option Addr) (c : Nat) (xs : List Int) (B : Option Addr) (d : Nat) (bs : List Bool), i < n → l[i]? = some (k, a, A, c, xs, B, d, bs) → xs.length ≤ 1000 ∧ bs.length ≤ 1000
theorem Small.zero (l : List Sd) : Small l 0 := fun i _ _ _ _ _ _ _ _ h => by omega
theorem Small.succ {l : List Sd} {n : Nat} {k a : Int} {A : Option Addr} {c : Nat} {xs : List Int} {B : Option Addr} {d : Nat} {bs : List Bool} (h : Small l n) (hg : l[n]? = some (k, a, A, c, xs, B, d, bs)) (h1 : xs.length ≤ 1000) (h2 : bs.length ≤ 1000) : Small l (n + 1) := fun i k' a' A' c' xs' B' d' bs' hi hg' => by
  by_cases e : i = n
  · subst e
    rw [hg] at hg'
    cases hg'
    exact ⟨h1, h2⟩
  · exact h i _ _ _ _ _ _ _ _ (by omega) hg'
theorem Small.over {l : List Sd} {n : Nat} (h : Small l n) (hn : l.length ≤ n ∨ 60 ≤ n) : Small l 60 := fun i k a A c xs B d bs hi hg => by
  have := (List.getElem?_eq_some_iff.1 hg).1
  exact h i _ _ _ _ _ _ _ _ (by omega) hg
def WK (n : Nat) (wt : Wt) : Prop := ∀ r ∈ wt, 0 ≤ r.1 ∧ 256 * r.1 + 256 ≤ n ∧ r.2.length = 256
theorem WOK.dat {n : Nat} {ws : List Ch} (h : WOK n ws) : WK n (dat ws) := fun r hr => by
  obtain ⟨q, hq, rfl⟩ := List.mem_map.1 hr
  exact h q hq
end Go.Proofs.Ytcpohiegijpghaa.SL.D
