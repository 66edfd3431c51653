/- What is seen is what a Sync makes safe. -/
import Derived.Test.YtlibhidhfbecbaaLPure
import Derived.Test.YtlibhidhfbecbaaSLzn
namespace Go.Proofs.Ytlibhidhfbecbaa.SL.D
set_option linter.unusedVariables false
set_option linter.unusedSimpArgs false
open Go Go.Proofs.Ytlibhidhfbecbaa.SL Go.Proofs.Ytlibhidhfbecbaa.SL.W

theorem not_f {b : Bool} (h : (!b) = false) : b = true := by cases b <;> simp_all
def Small (l : List Sd) (n : Nat) : Prop := ∀ (i : Nat) (k a : Int) (A : Option Addr) (c : Nat) (xs : List Int) (B : Option Addr) (d : Nat) (bs : List Bool), i < n → l[i]? = some (k, a, A, c, xs, B, d, bs) → xs.length ≤ 1000 ∧ bs.length ≤ 1000
theorem Small.zero (l : List Sd) : Small l 0 := fun i _ _ _ _ _ _ _ _ h => by omega
theorem Small.succ {l : List Sd} {n : Nat} {k a : Int} {A : Option Addr} {c : Nat} {xs : List Int} {B : Option Addr} {d : Nat} {bs : List Bool} (h : Small l n) (hg : l[n]? = some (k, a, A, c, xs, B, d, bs)) (h1 : xs.length ≤ 1000) (h2 : bs.length ≤ 1000) : Small l (n + 1) := fun i k' a' A' c' xs' B' d' bs' hi hg' => by
  by_cases e : i = n
  · subst e
    rw [hg] at hg'
    cases hg'
    exact ⟨h1, h2⟩
  · exact h i _ _ _ _ _ _ _ _ (by omega) hg'
theorem Small.over {l : List Sd} {n : Nat} (h : Small l n) (hn : l.length ≤ n ∨ 60 ≤ n) : Small l 60 := fun i k a A c xs B d bs hi hg => by
  have := (List.getElem?_eq_some_iff.1 hg).1
  exact h i _ _ _ _ _ _ _ _ (by omega) hg
def WK (n : Nat) (wt : Wt) : Prop := ∀ r ∈ wt, 0 ≤ r.1 ∧ 256 * r.1 + 256 ≤ n ∧ r.2.length = 256
theorem WOK.dat {n : Nat} {ws : List Ch} (h : WOK n ws) : WK n (dat ws) := fun r hr => by
  obtain ⟨q, hq, rfl⟩ := List.mem_map.1 hr
  exact h q hq
theorem block_put {s f : List Int} {n a b : Nat} (hs : s.length = n) (hf : f.length = 256) (ha : 256 * a + 256 ≤ n) (hb : 256 * b + 256 ≤ n) : ((putl s (256 * a) f).drop (256 * b)).take 256 = if a = b then f else (s.drop (256 * b)).take 256 := by
  have hp : putl s (256 * a) f = s.take (256 * a) ++ (f ++ s.drop (256 * a + 256)) := by rw [putl, hf, List.append_assoc]
  have h1 : (s.take (256 * a)).length = 256 * a := by rw [List.length_take]; omega
  rw [hp]
  rcases Nat.lt_trichotomy a b with h | h | h
  · rw [if_neg (by omega), List.drop_append, List.drop_of_length_le (by omega), List.nil_append, h1, List.drop_append, List.drop_of_length_le (by omega), List.nil_append, hf, List.drop_drop, show 256 * a + 256 + (256 * b - 256 * a - 256) = 256 * b by omega]
  · subst h
    rw [if_pos rfl, List.drop_append, List.drop_of_length_le (by omega), List.nil_append, h1, Nat.sub_self, List.drop_zero, List.take_append_of_le_length (by omega), List.take_of_length_le (by omega)]
  · rw [if_neg (by omega), List.drop_append_of_le_length (by omega), List.take_append_of_le_length (by rw [List.length_drop]; omega), List.drop_take, List.take_take, Nat.min_eq_left (by omega)]
theorem seen_snoc {ss f : List Int} {wt : Wt} {a b : Int} : seenP ss (wt ++ [(a, f)]) b = if a = b then f else seenP ss wt b := by
  rw [seenP, seenP, List.reverse_append, List.reverse_singleton, List.singleton_append]
  by_cases h : a = b
  · rw [List.find?_cons_of_pos (by simp [h]), if_pos h]
  · rw [List.find?_cons_of_neg (by simp [h]), if_neg h]
theorem sync_seen {ss : List Int} {wt : Wt} {n : Nat} (hs : ss.length = n) (hw : WK n wt) : ∀ k, k ≤ wt.length → (syncP ss (wt.take k)).length = n ∧ ∀ b : Int, 0 ≤ b → 256 * b + 256 ≤ n → seenP ss (wt.take k) b = ((syncP ss (wt.take k)).drop (256 * b.toNat)).take 256
  | 0, _ => by
    rw [List.take_zero]
    exact ⟨hs, fun b _ _ => rfl⟩
  | k + 1, hk => by
    obtain ⟨i1, i2⟩ := sync_seen hs hw k (by omega)
    have hlt : k < wt.length := by omega
    obtain ⟨w1, w2, w3⟩ := hw wt[k] (List.getElem_mem hlt)
    have e1 : wt.take (k + 1) = wt.take k ++ [(wt[k].1, wt[k].2)] := List.take_succ_eq_append_getElem hlt
    have e2 : syncP ss (wt.take (k + 1)) = putP (syncP ss (wt.take k)) (wt[k].1, wt[k].2) := by rw [e1]; simp [syncP]
    refine ⟨by rw [e2]; exact putP_len i1 w1 w2 w3, fun b h0 h1 => ?_⟩
    rw [e2, putP, block_put i1 w3 (by omega) (by omega), e1, seen_snoc, i2 b h0 h1]
    by_cases h : wt[k].1 = b
    · rw [if_pos h, if_pos (by rw [h])]
    · rw [if_neg h, if_neg (by omega)]
theorem seen_sync {ss : List Int} {wt : Wt} {n : Nat} (hs : ss.length = n) (hw : WK n wt) : (syncP ss wt).length = n ∧ ∀ b : Int, 0 ≤ b → 256 * b + 256 ≤ n → seenP ss wt b = ((syncP ss wt).drop (256 * b.toNat)).take 256 := by
  have := sync_seen hs hw wt.length (Nat.le_refl _)
  rwa [List.take_length] at this
end Go.Proofs.Ytlibhidhfbecbaa.SL.D
