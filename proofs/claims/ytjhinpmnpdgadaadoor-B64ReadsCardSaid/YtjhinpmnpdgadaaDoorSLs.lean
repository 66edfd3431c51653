/- What a datum's walk tells of its cells, with how much it may weigh; rows of rows. -/
import Derived.Test.YtjhinpmnpdgadaaDoorSLz
import Derived.Test.YtjhinpmnpdgadaaDoorSLq
namespace Go.Proofs.YtjhinpmnpdgadaaDoor.SL
set_option linter.unusedVariables false
set_option linter.unusedSimpArgs false
open Go Go.ChangeShapes Go.WideShapes

section
variable {H : Type} {enc : TypeId × Value → H} {P : Program} {w : World}

/-- A row of numbers that can be read. -/
def Told (k : IntKind) (w : World) (a : Option Addr) (xs : List Int) : Prop := 0 < (nums k xs).length → ∃ x, a = some x ∧ ∀ j v, (nums k xs)[j]? = some v → w.cell? (x.add j) = some v
/-! ### Rows of rows -/
abbrev Ro := Option Addr × Nat × List Int
def RowsOK (k : IntKind) (rs : List Ro) : Prop := ∀ r ∈ rs, In k r.2.2 ∧ r.2.2.length ≤ r.2.1 ∧ r.2.2.length ≤ 140737488351232
end

/-- Many rows that can be read. -/
def vws (L : List (Option Addr × List Value)) : Fact where
  own := false
  P := fun w fp => (∀ x, fp x → x < w.heap.size) ∧ ∀ r ∈ L, 0 < r.2.length → ∃ a, r.1 = some a ∧ fp a.block ∧ ∀ j v, r.2[j]? = some v → w.cell? (a.add j) = some v
  loc := fun h hl => ⟨fun x hx => lt_of_heap (h.1 x hx) (hl x hx), fun r hr hp => by
    obtain ⟨a, h1, h2, h4⟩ := h.2 r hr hp
    exact ⟨a, h1, h2, fun j v hv => by rw [← h4 j v hv]; exact World.cell?_of_block (by rw [add_block]; exact hl _ h2)⟩⟩
  bnd := fun h b hb => h.1 b hb
def rowsL (k : IntKind) (rs : List Ro) : List (Option Addr × List Value) := rs.map fun r => (r.1, nums k r.2.2)
theorem SAT.args {w : World} {D : List Fact} (h : SAT w (fun _ => False) D w) (k : IntKind) (rs : List Ro) (hc : ∀ r ∈ rs, Told k w r.1 r.2.2) : SAT w (fun _ => False) (vws (rowsL k rs) :: D) w := by
  obtain ⟨fr, O, R, h1, h2, h3, h4⟩ := h
  have hO : ∀ b, ¬ O b := fun b hb => by
    rcases h3 b hb with h | h
    · have := h4 b (.inl hb); omega
    · exact h
  refine ⟨fr, O, fun b => b < w.heap.size, ⟨fun b => b < w.heap.size, ⟨fun _ h => h, fun r hr hp => ?_⟩, fun _ h => h, sat_mono h1 (fun _ h => h) (fun b hb => h4 b (.inr hb))⟩, fun b hb => absurd hb (hO b), h3, fun b hb => hb.elim (fun h => absurd h (hO b)) id⟩
  obtain ⟨r0, hr0, rfl⟩ := List.mem_map.1 hr
  obtain ⟨a, hA, hcell⟩ := hc r0 hr0 hp
  refine ⟨a, hA, ?_, hcell⟩
  have := hcell 0 (nums k r0.2.2)[0] (by simp)
  have := World.block_lt_of_cell? w _ this
  rwa [add_block] at this
end Go.Proofs.YtjhinpmnpdgadaaDoor.SL
