/- What a law's row tells of its arguments, in the calculus' words; and how long a row of numbers may be. -/
import Derived.Test.YtaaplakahkgclaaSLk
import Derived.SizedLaws
import Derived.ChangeSlices
import Derived.ChangeReads
import Derived.ChangeArms
namespace Go.Proofs.Ytaaplakahkgclaa.SL
set_option linter.unusedVariables false
set_option linter.unusedSimpArgs false
open Go Go.ChangeShapes Go.WideShapes

theorem wf_fits {k : IntKind} {n : Int} (h : (Lit.int k n).wf = true) : fits k n := by
  simp only [Lit.wf, Bool.and_eq_true, decide_eq_true_eq] at h
  obtain ⟨h1, h2⟩ := h
  cases k <;> simp [IntKind.min, IntKind.max, IntKind.signed, IntKind.bits] at h1 h2 <;> simp only [fits] <;> omega

/-! ### What a datum's walk tells of its cells -/
section
variable {H : Type} {enc : TypeId × Value → H} {P : Program} {w : World} {base : Nat} {spare : Nat → Bool} {held : Bool}

/-- Whatever cells are walked at this type are told by R. -/
def Opens (enc : TypeId × Value → H) (P : Program) (w : World) (base : Nat) (spare : Nat → Bool) (held : Bool) (t : TypeId) (R : List Value → Prop) : Prop :=
  ∀ fuel cs x, DataW.trod enc P w base spare held fuel t cs = some x → R cs

theorem opens_int {t : TypeId} {k : IntKind} (h : P.underlying t = some (.int k)) : Opens enc P w base spare held t (fun cs => ∃ a, cs = [.int k a] ∧ fits k a) := fun _ _ _ hx => by
  obtain ⟨a, h1, _, h2⟩ := DataW.trod_int h hx
  exact ⟨a, h1, wf_fits h2⟩
theorem mapM_all {α β : Type} {f : α → Option β} : ∀ {L : List α} {ys : List β}, L.mapM f = some ys → ys.length = L.length ∧ ∀ a ∈ L, ∃ y, f a = some y
  | [], ys, h => by simp at h; subst h; exact ⟨rfl, fun _ h => by cases h⟩
  | a :: L, ys, h => by
    rw [List.mapM_cons] at h
    simp only [bind, Option.bind_eq_some_iff, pure, Option.some.injEq] at h
    obtain ⟨y, hy, zs, hz, rfl⟩ := h
    obtain ⟨h1, h2⟩ := mapM_all hz
    refine ⟨by simp [h1], fun b hb => ?_⟩
    rcases List.mem_cons.1 hb with rfl | hb
    · exact ⟨y, hy⟩
    · exact h2 b hb

/-- Cells in pieces of c each. -/
theorem pieces (c n : Nat) (cs : List Value) (h : cs.length = n * c) : cs = ((List.range n).map fun i => (cs.drop (i * c)).take c).flatten := by
  induction n generalizing cs with
  | zero => simp at h; subst h; rfl
  | succ n ih =>
    have h2 := ih (cs.drop c) (by rw [List.length_drop, h, Nat.succ_mul]; omega)
    rw [List.range_succ_eq_map, List.map_cons, List.map_map, List.flatten_cons]
    simp only [Nat.zero_mul, List.drop_zero]
    conv => lhs; rw [← List.take_append_drop c cs, h2]
    congr 2
    apply List.map_congr_left
    intro i _
    simp [List.drop_drop, Nat.succ_mul, Nat.add_comm]

theorem opens_array {t e : TypeId} {n c : Nat} {R : List Value → Prop} (h : P.underlying t = some (.array n e)) (hc : P.cellsOf e = c) (ht : P.cellsOf t = n * c) (he : Opens enc P w base spare held e R) :
    Opens enc P w base spare held t (fun cs => ∃ css : List (List Value), css.length = n ∧ cs = css.flatten ∧ ∀ x ∈ css, x.length = c ∧ R x) := fun fuel cs x hx => by
  cases fuel with
  | zero => simp [DataW.trod] at hx
  | succ m =>
    rw [DataW.trod_step] at hx
    unfold DataW.trodStep at hx
    rw [h] at hx
    simp only at hx
    split at hx
    · rename_i hl
      rw [ht] at hl
      simp only [Option.map_eq_some_iff, hc] at hx
      obtain ⟨ys, hy, _⟩ := hx
      obtain ⟨_, h2⟩ := mapM_all hy
      refine ⟨_, by simp, pieces c n cs hl, fun x hx => ?_⟩
      obtain ⟨i, hi, rfl⟩ := List.mem_map.1 hx
      obtain ⟨y, h3⟩ := h2 i hi
      refine ⟨?_, he _ _ _ h3⟩
      have hi := List.mem_range.1 hi
      rw [List.length_take, List.length_drop, hl]
      have : (i + 1) * c ≤ n * c := Nat.mul_le_mul_right _ hi
      rw [Nat.succ_mul] at this
      omega
    · cases hx

theorem flat_nums {k : IntKind} : ∀ {css : List (List Value)}, (∀ x ∈ css, ∃ a, x = [.int k a] ∧ fits k a) → ∃ xs : List Int, xs.length = css.length ∧ css.flatten = nums k xs ∧ In k xs
  | [], _ => ⟨[], rfl, rfl, In.nil _⟩
  | x :: css, h => by
    obtain ⟨a, rfl, ha⟩ := h x List.mem_cons_self
    obtain ⟨xs, h1, h2, h3⟩ := flat_nums (css := css) (fun y hy => h y (List.mem_cons_of_mem _ hy))
    exact ⟨a :: xs, by simp [h1], by simp [h2, nums], In.cons ha h3⟩

/-- An argument that is an array of numbers. -/
theorem arr_nums {t e : TypeId} {n : Nat} {k : IntKind} {v : Value} {d : DataW H} {ps : List MemPlace} (h : P.underlying t = some (.array n e)) (he : P.underlying e = some (.int k)) (hc : P.cellsOf e = 1) (ht : P.cellsOf t = n) {r : Reach} {b0 : Nat} (hval : Value.okWide P w r b0 t v)
    (hd : DataW.Trod enc P w base spare held t v d ps) : ∃ xs : List Int, v = .agg (nums k xs).toArray ∧ xs.length = n ∧ In k xs := by
  simp only [Value.okWide, h] at hval
  obtain ⟨cs, rfl, h2, _⟩ := hval
  obtain ⟨fuel, hf⟩ := hd
  obtain ⟨css, h3, h4, h5⟩ := opens_array h hc (by omega) (opens_int he) fuel _ _ hf
  obtain ⟨xs, h6, h7, h8⟩ := flat_nums (k := k) (css := css) (fun x hx => (h5 x hx).2)
  refine ⟨xs, ?_, by omega, h8⟩
  rw [← h7, ← h4]
  simp [Value.cells]

/-- Cells part by part. -/
def Each : List (List Value → Prop) → List Value → Prop
  | [], cs => cs = []
  | [R], cs => R cs
  | R :: S :: Rs, cs => ∃ p r, cs = p ++ r ∧ R p ∧ Each (S :: Rs) r
theorem Each.cons {R : List Value → Prop} {Rs : List (List Value → Prop)} {p r : List Value} (hp : R p) (hr : Each Rs r) : Each (R :: Rs) (p ++ r) := by
  match Rs, hr with
  | [], hr => rw [show r = [] from hr, List.append_nil]; exact hp
  | S :: Rs, hr => exact ⟨p, r, rfl, hp, hr⟩
def OpenAll (enc : TypeId × Value → H) (P : Program) (w : World) (base : Nat) (spare : Nat → Bool) (held : Bool) : List Field → List (List Value → Prop) → Prop
  | [], [] => True
  | f :: fs, R :: Rs => Opens enc P w base spare held f.type R ∧ OpenAll enc P w base spare held fs Rs
  | _, _ => False
theorem OpenAll.nil : OpenAll enc P w base spare held [] [] := trivial
theorem OpenAll.cons {f : Field} {fs : List Field} {R : List Value → Prop} {Rs : List (List Value → Prop)} (h1 : Opens enc P w base spare held f.type R) (h2 : OpenAll enc P w base spare held fs Rs) : OpenAll enc P w base spare held (f :: fs) (R :: Rs) := ⟨h1, h2⟩
end
end Go.Proofs.Ytaaplakahkgclaa.SL
