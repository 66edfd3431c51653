/- Regions whose order is drawn: whichever of many operations comes first; what holds of the rest, told by name. -/
import Derived.Test.YtjhinpmnpdgadaaDoorSLzb
namespace Go.Proofs.YtjhinpmnpdgadaaDoor.SL
set_option linter.unusedVariables false
open Go
section
variable {X : Cx} {K : Post} {ops : Array Oper} {Θ : List Fact} {ds : List Nat} {fuel : Nat} {l : Array Bool} {t : Env} {D : List Fact}
theorem RunU.name (h : ∀ R, R = RunU X K ops Θ ds → R fuel l t D) : RunU X K ops Θ ds fuel l t D := h _ rfl
theorem RunU.any (L : List Nat) (hL : (Region.ready .any ops l == L) = true) (hne : L.isEmpty = false)
    (h : ∀ j ∈ L, ∃ (dst : Option Tmp) (op : Op) (l' : Array Bool) (ks : List Nat), opInfo ops j t = some (dst, op) ∧ (l.setIfInBounds j true == l') = true ∧ Step X dst op t D (fun t' D' => (atAll D' ks = some Θ ∨ onList ds j = true) ∧ RunU X K ops Θ ds fuel l' t' D')) : RunU X K ops Θ ds (fuel + 1) l t D := by
  have hr : Region.ready .any ops l = L := by simpa using hL
  intro ρ a w ha hw
  refine ⟨fun h0 => (by rw [hr] at h0; rw [h0] at hne; cases hne), fun k hk => ?_⟩
  rw [hr] at hk
  obtain ⟨dst, op, l', ks, h1, h2, hs⟩ := h k hk
  have h2 : l.setIfInBounds k true = l' := by simpa using h2
  subst h2
  obtain ⟨o, ho, hg, hdst, hop⟩ := opInfo_spec h1
  unfold wpOp
  simp only [ho, gd_sound ha hg, if_true]
  refine .inl (hs o hdst hop ρ a w ha hw _ _ (fun t' D' a' w' h3 h4 h5 => ⟨fun hn _ => ?_, h5.2 ρ a' w' h3 h4⟩)).2
  rcases h5.1 with h6 | h6
  · exact atAll_sat h4 h6
  · exact absurd (onList_mem h6) hn
end
end Go.Proofs.YtjhinpmnpdgadaaDoor.SL
