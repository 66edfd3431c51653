import Derived.Test.YtjhinpmnpdgadaaDoorSLq
import Derived.SizedLaws
import Derived.ChangeSlices
import Derived.ChangeReads
import Derived.ChangeArms
import Derived.Lib.AppendZeros
/- What a law's row tells of its arguments, in the calculus' words; and how long a row of numbers may be. -/
namespace Go.Proofs.YtjhinpmnpdgadaaDoor.SL
set_option linter.unusedVariables false
set_option linter.unusedSimpArgs false
open Go Go.ChangeShapes Go.WideShapes

/-! ### What a datum's walk tells of its cells -/
section
variable {H : Type} {enc : TypeId × Value → H} {P : Program} {w : World} {base : Nat} {spare : Nat → Bool} {held : Bool}

/-- Whatever cells are walked at this type are told by R. -/
def Opens (enc : TypeId × Value → H) (P : Program) (w : World) (base : Nat) (spare : Nat → Bool) (held : Bool) (t : TypeId) (R : List Value → Prop) : Prop :=
  ∀ fuel cs x, DataW.trod enc P w base spare held fuel t cs = some x → R cs

/-- Cells in pieces of c each. -/
theorem pieces (c n : Nat) (cs : List Value) (h : cs.length = n * c) : cs = ((List.range n).map fun i => (cs.drop (i * c)).take c).flatten := by
  induction n generalizing cs with
  | zero => simp at h; subst h; rfl
  | succ n ih =>
    have h2 := ih (cs.drop c) (by rw [List.length_drop, h, Nat.succ_mul]; omega)
    rw [List.range_succ_eq_map, List.map_cons, List.map_map, List.flatten_cons]
    simp only [Nat.zero_mul, List.drop_zero]
    conv => lhs; rw [← List.take_append_drop c cs, h2]
    congr 2
    apply List.map_congr_left
    intro i _
    simp [List.drop_drop, Nat.succ_mul, Nat.add_comm]

/-- Cells part by part. -/
def Each : List (List Value → Prop) → List Value → Prop
  | [], cs => cs = []
  | [R], cs => R cs
  | R :: S :: Rs, cs => ∃ p r, cs = p ++ r ∧ R p ∧ Each (S :: Rs) r
theorem Each.cons {R : List Value → Prop} {Rs : List (List Value → Prop)} {p r : List Value} (hp : R p) (hr : Each Rs r) : Each (R :: Rs) (p ++ r) := by
  match Rs, hr with
  | [], hr => rw [show r = [] from hr, List.append_nil]; exact hp
  | S :: Rs, hr => exact ⟨p, r, rfl, hp, hr⟩
def OpenAll (enc : TypeId × Value → H) (P : Program) (w : World) (base : Nat) (spare : Nat → Bool) (held : Bool) : List Field → List (List Value → Prop) → Prop
  | [], [] => True
  | f :: fs, R :: Rs => Opens enc P w base spare held f.type R ∧ OpenAll enc P w base spare held fs Rs
  | _, _ => False
theorem OpenAll.nil : OpenAll enc P w base spare held [] [] := trivial
theorem OpenAll.cons {f : Field} {fs : List Field} {R : List Value → Prop} {Rs : List (List Value → Prop)} (h1 : Opens enc P w base spare held f.type R) (h2 : OpenAll enc P w base spare held fs Rs) : OpenAll enc P w base spare held (f :: fs) (R :: Rs) := ⟨h1, h2⟩
end
end Go.Proofs.YtjhinpmnpdgadaaDoor.SL

/- What a datum's walk tells of its cells, with how much it may weigh; rows of rows. -/
namespace Go.Proofs.YtjhinpmnpdgadaaDoor.SL
set_option linter.unusedVariables false
set_option linter.unusedSimpArgs false
open Go Go.ChangeShapes Go.WideShapes

section
variable {H : Type} {enc : TypeId × Value → H} {P : Program} {w : World}

/-- A row of numbers that can be read. -/
def Told (k : IntKind) (w : World) (a : Option Addr) (xs : List Int) : Prop := 0 < (nums k xs).length → ∃ x, a = some x ∧ ∀ j v, (nums k xs)[j]? = some v → w.cell? (x.add j) = some v
/-! ### Rows of rows -/
abbrev Ro := Option Addr × Nat × List Int
def RowsOK (k : IntKind) (rs : List Ro) : Prop := ∀ r ∈ rs, In k r.2.2 ∧ r.2.2.length ≤ r.2.1 ∧ r.2.2.length ≤ 140737488351232
end

/-- Many rows that can be read. -/
def vws (L : List (Option Addr × List Value)) : Fact where
  own := false
  P := fun w fp => (∀ x, fp x → x < w.heap.size) ∧ ∀ r ∈ L, 0 < r.2.length → ∃ a, r.1 = some a ∧ fp a.block ∧ ∀ j v, r.2[j]? = some v → w.cell? (a.add j) = some v
  loc := fun h hl => ⟨fun x hx => lt_of_heap (h.1 x hx) (hl x hx), fun r hr hp => by
    obtain ⟨a, h1, h2, h4⟩ := h.2 r hr hp
    exact ⟨a, h1, h2, fun j v hv => by rw [← h4 j v hv]; exact World.cell?_of_block (by rw [add_block]; exact hl _ h2)⟩⟩
  bnd := fun h b hb => h.1 b hb
theorem tells_vws {L : List (Option Addr × List Value)} {A : Option Addr} {us : List Value} (h : (A, us) ∈ L) : Tells (vws L) A us := fun w fp hp => ⟨fp, fun _ hb => hb, hp.1, fun h0 => hp.2 _ h h0⟩
def rowsL (k : IntKind) (rs : List Ro) : List (Option Addr × List Value) := rs.map fun r => (r.1, nums k r.2.2)
theorem SAT.args {w : World} {D : List Fact} (h : SAT w (fun _ => False) D w) (k : IntKind) (rs : List Ro) (hc : ∀ r ∈ rs, Told k w r.1 r.2.2) : SAT w (fun _ => False) (vws (rowsL k rs) :: D) w := by
  obtain ⟨fr, O, R, h1, h2, h3, h4⟩ := h
  have hO : ∀ b, ¬ O b := fun b hb => by
    rcases h3 b hb with h | h
    · have := h4 b (.inl hb); omega
    · exact h
  refine ⟨fr, O, fun b => b < w.heap.size, ⟨fun b => b < w.heap.size, ⟨fun _ h => h, fun r hr hp => ?_⟩, fun _ h => h, sat_mono h1 (fun _ h => h) (fun b hb => h4 b (.inr hb))⟩, fun b hb => absurd hb (hO b), h3, fun b hb => hb.elim (fun h => absurd h (hO b)) id⟩
  obtain ⟨r0, hr0, rfl⟩ := List.mem_map.1 hr
  obtain ⟨a, hA, hcell⟩ := hc r0 hr0 hp
  refine ⟨a, hA, ?_, hcell⟩
  have := hcell 0 (nums k r0.2.2)[0] (by simp)
  have := World.block_lt_of_cell? w _ this
  rwa [add_block] at this
end Go.Proofs.YtjhinpmnpdgadaaDoor.SL

/- Rows of rows that are owned: written out, appended to, lent. -/
namespace Go.Proofs.YtjhinpmnpdgadaaDoor.SL
set_option linter.unusedVariables false
set_option linter.unusedSimpArgs false
open Go

section
variable {X : Cx} {U : Tab} (hU : U.OK X.P) {t : Env} {D : List Fact} {φ : Env → List Fact → Prop}
include hU
end

/-! ### Many rows lent -/
theorem RowsOK.nil (k : IntKind) : RowsOK k [] := fun r hr => by cases hr
theorem RowsOK.cons {k : IntKind} {A : Option Addr} {c : Nat} {xs : List Int} {rs : List Ro} (h1 : In k xs) (h2 : xs.length ≤ c) (h3 : xs.length ≤ 140737488351232) (h : RowsOK k rs) : RowsOK k ((A, c, xs) :: rs) := fun r hr => by
  rcases List.mem_cons.1 hr with rfl | hr
  · exact ⟨h1, h2, h3⟩
  · exact h r hr
end Go.Proofs.YtjhinpmnpdgadaaDoor.SL

/- A drawn region in which two operations are ready: either may come first. -/
namespace Go.Proofs.YtjhinpmnpdgadaaDoor.SL
set_option linter.unusedVariables false
set_option linter.unusedSimpArgs false
open Go
section
variable {X : Cx} {K : Post} {ops : Array Oper} {Θ : List Fact} {ds : List Nat} {t : Env} {D : List Fact} {fuel : Nat} {l : Array Bool}
theorem onList_mem {j : Nat} : ∀ {L : List Nat}, onList L j = true → j ∈ L
  | [], h => by cases h
  | k :: L, h => by
    unfold onList at h
    cases hb : Nat.beq k j with
    | true => rw [Nat.eq_of_beq_eq_true hb]; exact List.mem_cons_self
    | false => rw [hb] at h; exact List.mem_cons_of_mem _ (onList_mem h)
theorem RunU.two (i j : Nat) (li lj : Array Bool) {d1 d2 : Option Tmp} {o1 o2 : Op} (ks1 ks2 : List Nat) (hr : (Region.ready .any ops l == [i, j]) = true) (hl1 : (l.setIfInBounds i true == li) = true) (hl2 : (l.setIfInBounds j true == lj) = true) (h1 : opInfo ops i t = some (d1, o1)) (h2 : opInfo ops j t = some (d2, o2))
    (s1 : Step X d1 o1 t D (fun t' D' => (atAll D' ks1 = some Θ ∨ onList ds i = true) ∧ RunU X K ops Θ ds fuel li t' D'))
    (s2 : Step X d2 o2 t D (fun t' D' => (atAll D' ks2 = some Θ ∨ onList ds j = true) ∧ RunU X K ops Θ ds fuel lj t' D')) : RunU X K ops Θ ds (fuel + 1) l t D := by
  have hr : Region.ready .any ops l = [i, j] := by simpa using hr
  have hl1 : l.setIfInBounds i true = li := by simpa using hl1
  have hl2 : l.setIfInBounds j true = lj := by simpa using hl2
  subst hl1 hl2
  intro ρ a w ha hw
  have fin : ∀ (k : Nat) {d : Option Tmp} {op : Op} (ks : List Nat), opInfo ops k t = some (d, op) → Step X d op t D (fun t' D' => (atAll D' ks = some Θ ∨ onList ds k = true) ∧ RunU X K ops Θ ds fuel (l.setIfInBounds k true) t' D') →
      wpOp X.P ops (den X ρ K) k (fun a' w' => (k ∉ ds → (∀ f ∈ Θ, ∃ fp, f.P w fp) → ∀ f ∈ Θ, ∃ fp, f.P w' fp) ∧ wpU X.P ops (den X ρ K) (fun w => ∀ f ∈ Θ, ∃ fp, f.P w fp) ds fuel (l.setIfInBounds k true) a' w') a w := by
    intro k d op ks h hs
    obtain ⟨o, ho, hg, hdst, hop⟩ := opInfo_spec h
    unfold wpOp
    simp only [ho, gd_sound ha hg, if_true]
    refine .inl (hs o hdst hop ρ a w ha hw _ _ (fun t' D' a' w' h3 h4 h5 => ⟨fun hn _ => ?_, h5.2 ρ a' w' h3 h4⟩)).2
    rcases h5.1 with h6 | h6
    · exact atAll_sat h4 h6
    · exact absurd (onList_mem h6) hn
  refine ⟨fun h0 => (by rw [hr] at h0; cases h0), fun k hk => ?_⟩
  rw [hr] at hk
  rcases List.mem_cons.1 hk with rfl | hk
  · exact fin _ _ h1 s1
  · obtain rfl := List.mem_singleton.1 hk
    exact fin _ _ h2 s2
end
end Go.Proofs.YtjhinpmnpdgadaaDoor.SL

/- Appending so many zeros: append(x, make([]T, n)...). -/
namespace Go.Proofs.YtjhinpmnpdgadaaDoor.SL
set_option linter.unusedVariables false
set_option linter.unusedSimpArgs false
open Go
section
variable {P : Program} {w : World}
end
section
variable {X : Cx} {U : Tab} (hU : U.OK X.P) {t : Env} {D : List Fact} {φ : Env → List Fact → Prop}
include hU
end
end Go.Proofs.YtjhinpmnpdgadaaDoor.SL

/- Blocks of numbers, two at a time: the elements of an array of structs of two numbers. -/
namespace Go.Proofs.YtjhinpmnpdgadaaDoor.SL
set_option linter.unusedVariables false
set_option linter.unusedSimpArgs false
open Go
theorem cut2 {α : Type} [Inhabited α] (xs : List α) (o : Nat) (h : o + 2 ≤ xs.length) (d : α) : xs = xs.take o ++ ([xs.getD o d, xs.getD (o + 1) d] ++ xs.drop (o + 2)) := by
  conv => lhs; rw [← List.take_append_drop o xs, List.drop_eq_getElem_cons (by omega), List.drop_eq_getElem_cons (by omega)]
  rw [List.getD_eq_getElem?_getD, List.getElem?_eq_getElem (by omega), List.getD_eq_getElem?_getD, List.getElem?_eq_getElem (by omega)]
  rfl
theorem Seg.pair {k : IntKind} {xs : List Int} {o : Nat} (h : o + 2 ≤ xs.length) : Seg (nums k xs) o [.int k (xs.getD o 0), .int k (xs.getD (o + 1) 0)] := by
  refine ⟨nums k (xs.take o), nums k (xs.drop (o + 2)), ?_, by rw [nums_length, List.length_take]; omega⟩
  conv => lhs; rw [cut2 xs o h 0]
  simp [nums]
theorem set_pair (xs : List Int) (o : Nat) (h : o + 2 ≤ xs.length) (a b : Int) : (xs.set o a).set (o + 1) b = xs.take o ++ [a, b] ++ xs.drop (o + 2) := by
  rw [List.set_eq_take_append_cons_drop, if_pos (by rw [List.length_set]; omega), List.set_eq_take_append_cons_drop, if_pos (by omega)]
  simp [List.take_append, List.drop_append, List.length_take, Nat.min_eq_left (show o ≤ xs.length by omega)]
  rw [show o + 1 + 1 - o = 2 by omega, List.take_of_length_le (by rw [List.length_take]; omega), List.drop_of_length_le (by rw [List.length_take]; omega)]
  simp
theorem Put.pair {k : IntKind} {xs : List Int} {o : Nat} {a b : Int} (h : o + 2 ≤ xs.length) : Put (Go.Proofs.YtjhinpmnpdgadaaDoor.SL.nums k xs) o [.int k a, .int k b] (Go.Proofs.YtjhinpmnpdgadaaDoor.SL.nums k ((xs.set o a).set (o + 1) b)) := by
  refine ⟨?_, by simp [nums_length]; omega⟩
  rw [set_pair _ _ h]
  simp [wr, Go.Proofs.YtjhinpmnpdgadaaDoor.SL.nums]
/-- Each is at least a and below b. -/
structure Bnd (a b : Int) (xs : List Int) : Prop where
  lo : a ≤ 0
  hi : 0 < b
  all : ∀ x ∈ xs, a ≤ x ∧ x < b
theorem Bnd.at_ {a b : Int} {xs : List Int} (h : Bnd a b xs) (i : Nat) : a ≤ xs.getD i 0 ∧ xs.getD i 0 < b := by
  rw [List.getD_eq_getElem?_getD]
  rcases Nat.lt_or_ge i xs.length with hi | hi
  · rw [List.getElem?_eq_getElem hi]; exact h.all _ (List.getElem_mem hi)
  · rw [List.getElem?_eq_none hi]; exact ⟨h.lo, h.hi⟩
theorem Bnd.set {a b : Int} {xs : List Int} (h : Bnd a b xs) (i : Nat) {v : Int} (hv : a ≤ v ∧ v < b) : Bnd a b (xs.set i v) :=
  ⟨h.lo, h.hi, fun x hx => by
    rcases List.mem_or_eq_of_mem_set hx with hx | rfl
    · exact h.all x hx
    · exact hv⟩
theorem Bnd.snoc {a b : Int} {xs : List Int} (h : Bnd a b xs) {v : Int} (hv : a ≤ v ∧ v < b) : Bnd a b (xs ++ [v]) :=
  ⟨h.lo, h.hi, fun x hx => by
    rcases List.mem_append.1 hx with hx | hx
    · exact h.all x hx
    · rw [List.mem_singleton] at hx; rw [hx]; exact hv⟩
theorem Bnd.nil {a b : Int} (h : a ≤ 0) (h' : 0 < b) : Bnd a b [] := ⟨h, h', fun x hx => by cases hx⟩
end Go.Proofs.YtjhinpmnpdgadaaDoor.SL
