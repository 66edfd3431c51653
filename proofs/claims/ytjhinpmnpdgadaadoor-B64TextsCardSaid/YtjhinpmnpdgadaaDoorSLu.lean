/- A drawn region in which two operations are ready: either may come first. -/
import Derived.Test.YtjhinpmnpdgadaaDoorSLt
namespace Go.Proofs.YtjhinpmnpdgadaaDoor.SL
set_option linter.unusedVariables false
set_option linter.unusedSimpArgs false
open Go
section
variable {X : Cx} {K : Post} {ops : Array Oper} {Θ : List Fact} {ds : List Nat} {t : Env} {D : List Fact} {fuel : Nat} {l : Array Bool}
theorem onList_mem {j : Nat} : ∀ {L : List Nat}, onList L j = true → j ∈ L
  | [], h => by cases h
  | k :: L, h => by
    unfold onList at h
    cases hb : Nat.beq k j with
    | true => rw [Nat.eq_of_beq_eq_true hb]; exact List.mem_cons_self
    | false => rw [hb] at h; exact List.mem_cons_of_mem _ (onList_mem h)
theorem RunU.two (i j : Nat) (li lj : Array Bool) {d1 d2 : Option Tmp} {o1 o2 : Op} (ks1 ks2 : List Nat) (hr : (Region.ready .any ops l == [i, j]) = true) (hl1 : (l.setIfInBounds i true == li) = true) (hl2 : (l.setIfInBounds j true == lj) = true) (h1 : opInfo ops i t = some (d1, o1)) (h2 : opInfo ops j t = some (d2, o2))
    (s1 : Step X d1 o1 t D (fun t' D' => (atAll D' ks1 = some Θ ∨ onList ds i = true) ∧ RunU X K ops Θ ds fuel li t' D'))
    (s2 : Step X d2 o2 t D (fun t' D' => (atAll D' ks2 = some Θ ∨ onList ds j = true) ∧ RunU X K ops Θ ds fuel lj t' D')) : RunU X K ops Θ ds (fuel + 1) l t D := by
  have hr : Region.ready .any ops l = [i, j] := by simpa using hr
  have hl1 : l.setIfInBounds i true = li := by simpa using hl1
  have hl2 : l.setIfInBounds j true = lj := by simpa using hl2
  subst hl1 hl2
  intro ρ a w ha hw
  have fin : ∀ (k : Nat) {d : Option Tmp} {op : Op} (ks : List Nat), opInfo ops k t = some (d, op) → Step X d op t D (fun t' D' => (atAll D' ks = some Θ ∨ onList ds k = true) ∧ RunU X K ops Θ ds fuel (l.setIfInBounds k true) t' D') →
      wpOp X.P ops (den X ρ K) k (fun a' w' => (k ∉ ds → (∀ f ∈ Θ, ∃ fp, f.P w fp) → ∀ f ∈ Θ, ∃ fp, f.P w' fp) ∧ wpU X.P ops (den X ρ K) (fun w => ∀ f ∈ Θ, ∃ fp, f.P w fp) ds fuel (l.setIfInBounds k true) a' w') a w := by
    intro k d op ks h hs
    obtain ⟨o, ho, hg, hdst, hop⟩ := opInfo_spec h
    unfold wpOp
    simp only [ho, gd_sound ha hg, if_true]
    refine .inl (hs o hdst hop ρ a w ha hw _ _ (fun t' D' a' w' h3 h4 h5 => ⟨fun hn _ => ?_, h5.2 ρ a' w' h3 h4⟩)).2
    rcases h5.1 with h6 | h6
    · exact atAll_sat h4 h6
    · exact absurd (onList_mem h6) hn
  refine ⟨fun h0 => (by rw [hr] at h0; cases h0), fun k hk => ?_⟩
  rw [hr] at hk
  rcases List.mem_cons.1 hk with rfl | hk
  · exact fin _ _ h1 s1
  · obtain rfl := List.mem_singleton.1 hk
    exact fin _ _ h2 s2
end
end Go.Proofs.YtjhinpmnpdgadaaDoor.SL
