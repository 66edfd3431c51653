/- What a law's row tells of its arguments, in the calculus' words; and how long a row of numbers may be. -/
import Derived.Test.YtjhinpmnpdgadaaDoorSLk
import Derived.SizedLaws
import Derived.ChangeSlices
import Derived.ChangeReads
import Derived.ChangeArms
namespace Go.Proofs.YtjhinpmnpdgadaaDoor.SL
set_option linter.unusedVariables false
set_option linter.unusedSimpArgs false
open Go Go.ChangeShapes Go.WideShapes

theorem wf_fits {k : IntKind} {n : Int} (h : (Lit.int k n).wf = true) : fits k n := by
  simp only [Lit.wf, Bool.and_eq_true, decide_eq_true_eq] at h
  obtain ⟨h1, h2⟩ := h
  cases k <;> simp [IntKind.min, IntKind.max, IntKind.signed, IntKind.bits] at h1 h2 <;> simp only [fits] <;> omega

/-- A row of numbers, as a law's row opens it. -/
def IsRow (k : IntKind) (w : World) (a : Option Addr) (len cap : Nat) (zs : List Int) : Prop :=
  (a = none ∧ len = 0 ∧ cap = 0 ∧ zs = []) ∨
  ∃ x, a = some x ∧ len ≤ cap ∧ cap ≤ maxLen ∧ zs.length = cap ∧ (∀ i, i < zs.length → w.cell? (x.add i) = some (.int k (zs.getD i 0))) ∧ ∀ n ∈ zs, (Lit.int k n).wf = true

theorem IsRow.use {k : IntKind} {w : World} {a : Option Addr} {len cap : Nat} {zs : List Int} (h : IsRow k w a len cap zs) :
    ∃ xs : List Int, xs.length = len ∧ len ≤ cap ∧ In k xs ∧ (0 < (nums k xs).length → ∃ x, a = some x ∧ ∀ j v, (nums k xs)[j]? = some v → w.cell? (x.add j) = some v) := by
  rcases h with ⟨_, rfl, _, _⟩ | ⟨x, rfl, h1, _, h3, h4, h5⟩
  · exact ⟨[], rfl, Nat.zero_le _, In.nil _, fun h => by simp [nums] at h⟩
  · refine ⟨zs.take len, by rw [List.length_take]; omega, h1, fun n hn => wf_fits (h5 n (List.mem_of_mem_take hn)), fun _ => ⟨x, rfl, fun j v hv => ?_⟩⟩
    have hj := (List.getElem?_eq_some_iff.1 hv).1
    rw [nums_length, List.length_take] at hj
    rw [nums_get _ _ _ (by rw [List.length_take]; omega)] at hv
    rw [h4 j (by omega), ← hv]
    congr 2
    rw [List.getD_eq_getElem?_getD, List.getD_eq_getElem?_getD, List.getElem?_take, if_pos (by omega)]

/-- A row's slice of whole numbers is no longer than its weight allows. -/
theorem row_bound {H : Type} {enc : TypeId × Value → H} {P : Program} {W : World} {base : Nat} {spare : Nat → Bool} {held : Bool} {t e : TypeId} {k : IntKind} {a : Option Addr} {len cap : Nat} {d : DataW H} {ps : List MemPlace} {ts : List TypeId} {ds : List (DataW H)} {j : Nat}
    (hsz : (DataW.weightsEach P ts ds).all (· ≤ reachBytes) = true) (ht : ts[j]? = some t) (hd : ds[j]? = some d) (hu : P.underlying t = some (.slice e)) (he : P.underlying e = some (.int k)) (hc : P.cellsOf e = 1) {B : Nat} (hB : P.bytesOf e = B)
    (h : DataW.Trod enc P W base spare held t (.slice a len cap) d ps) : len * B ≤ 140737488351232 := by
  obtain ⟨fuel, hf⟩ := h
  rcases open_ints hu he hc hf with ⟨hcs, _⟩ | ⟨x, l, c, zs, hcs, _, hl, _, hz, hx, _, _⟩
  · simp [Value.cells] at hcs
    simp [hcs.2.1]
  · simp [Value.cells] at hcs
    obtain ⟨rfl, rfl, rfl⟩ := hcs
    cases (Prod.mk.inj hx).1
    have z := sized_slice hsz ht hd hu
    rw [hB] at z
    refine Nat.le_trans (Nat.mul_le_mul_right _ ?_) z
    have hl2 : len ≤ zs.length := by rw [hz]; split <;> omega
    simp [lits]
    omega

/-! ### What a datum's walk tells of its cells -/
section
variable {H : Type} {enc : TypeId × Value → H} {P : Program} {w : World} {base : Nat} {spare : Nat → Bool} {held : Bool}

/-- Whatever cells are walked at this type are told by R. -/
def Opens (enc : TypeId × Value → H) (P : Program) (w : World) (base : Nat) (spare : Nat → Bool) (held : Bool) (t : TypeId) (R : List Value → Prop) : Prop :=
  ∀ fuel cs x, DataW.trod enc P w base spare held fuel t cs = some x → R cs

/-- Cells part by part. -/
def Each : List (List Value → Prop) → List Value → Prop
  | [], cs => cs = []
  | [R], cs => R cs
  | R :: S :: Rs, cs => ∃ p r, cs = p ++ r ∧ R p ∧ Each (S :: Rs) r
theorem Each.cons {R : List Value → Prop} {Rs : List (List Value → Prop)} {p r : List Value} (hp : R p) (hr : Each Rs r) : Each (R :: Rs) (p ++ r) := by
  match Rs, hr with
  | [], hr => rw [show r = [] from hr, List.append_nil]; exact hp
  | S :: Rs, hr => exact ⟨p, r, rfl, hp, hr⟩
def OpenAll (enc : TypeId × Value → H) (P : Program) (w : World) (base : Nat) (spare : Nat → Bool) (held : Bool) : List Field → List (List Value → Prop) → Prop
  | [], [] => True
  | f :: fs, R :: Rs => Opens enc P w base spare held f.type R ∧ OpenAll enc P w base spare held fs Rs
  | _, _ => False
theorem OpenAll.nil : OpenAll enc P w base spare held [] [] := trivial
theorem OpenAll.cons {f : Field} {fs : List Field} {R : List Value → Prop} {Rs : List (List Value → Prop)} (h1 : Opens enc P w base spare held f.type R) (h2 : OpenAll enc P w base spare held fs Rs) : OpenAll enc P w base spare held (f :: fs) (R :: Rs) := ⟨h1, h2⟩
end
end Go.Proofs.YtjhinpmnpdgadaaDoor.SL
