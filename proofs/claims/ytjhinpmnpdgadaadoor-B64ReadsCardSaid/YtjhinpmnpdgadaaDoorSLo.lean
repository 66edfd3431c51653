/- Blocks whose cells lie in segments: the fields of a struct. -/
import Derived.Test.YtjhinpmnpdgadaaDoorSLn
namespace Go.Proofs.YtjhinpmnpdgadaaDoor.SL
set_option linter.unusedVariables false
set_option linter.unusedSimpArgs false
open Go

/-- q lies in cs, from o on. -/
def Seg (cs : List Value) (o : Nat) (q : List Value) : Prop := ∃ p r, cs = p ++ (q ++ r) ∧ p.length = o
theorem Seg.all (q : List Value) : Seg q 0 q := ⟨[], [], by simp, rfl⟩
theorem Seg.here (q r : List Value) : Seg (q ++ r) 0 q := ⟨[], r, rfl, rfl⟩
theorem Seg.skip {p cs q : List Value} {n o : Nat} (hp : p.length = n) (h : Seg cs o q) : Seg (p ++ cs) (n + o) q := by
  obtain ⟨a, r, rfl, h2⟩ := h
  exact ⟨p ++ a, r, by simp, by simp [hp, h2]⟩
theorem Seg.told {cs q : List Value} {o : Nat} (h : Seg cs o q) : q = (cs.drop o).take q.length := by
  obtain ⟨p, r, rfl, rfl⟩ := h
  simp
theorem Seg.one {cs : List Value} {v : Value} {o : Nat} (h : Seg cs o [v]) : cs[o]? = some v := by
  obtain ⟨p, r, rfl, rfl⟩ := h
  simp
theorem Seg.le {cs q : List Value} {o : Nat} (h : Seg cs o q) : o + q.length ≤ cs.length := by
  obtain ⟨p, r, rfl, rfl⟩ := h
  simp only [List.length_append]
  omega
theorem Seg.sub {cs q u : List Value} {o i : Nat} (h : Seg cs o q) (h2 : Seg q i u) : Seg cs (o + i) u := by
  obtain ⟨p, r, rfl, rfl⟩ := h
  obtain ⟨p2, r2, rfl, rfl⟩ := h2
  exact ⟨p ++ p2, r2 ++ r, by simp, by simp⟩
/-- What cs becomes when us is written from o on. -/
def Put (cs : List Value) (o : Nat) (us cs' : List Value) : Prop := wr cs o us = cs' ∧ o + us.length ≤ cs.length
theorem Put.all {q us : List Value} (h : us.length = q.length) : Put q 0 us us := by
  refine ⟨?_, by omega⟩
  simp [wr, h]
theorem Put.here {q us : List Value} (r : List Value) (h : us.length = q.length) : Put (q ++ r) 0 us (us ++ r) := by
  refine ⟨?_, by simp; omega⟩
  simp [wr, h]
theorem Put.front {q us q' : List Value} {i : Nat} (r : List Value) (h : Put q i us q') : Put (q ++ r) i us (q' ++ r) := by
  obtain ⟨rfl, h2⟩ := h
  refine ⟨?_, by simp; omega⟩
  simp only [wr]
  rw [List.take_append_of_le_length (by omega), List.drop_append_of_le_length h2]
  simp
theorem Put.skip {p cs us cs' : List Value} {n o : Nat} (hp : p.length = n) (h : Put cs o us cs') : Put (p ++ cs) (n + o) us (p ++ cs') := by
  obtain ⟨rfl, h2⟩ := h
  subst hp
  refine ⟨?_, by simp; omega⟩
  simp only [wr]
  rw [List.take_append, List.take_of_length_le (by omega), show p.length + o - p.length = o by omega, List.drop_append, List.drop_of_length_le (by omega), show p.length + o + us.length - p.length = o + us.length by omega]
  simp
theorem Put.at {cs us cs' : List Value} {o p : Nat} (h : Put cs o us cs') (hp : p = o) : Put cs p us cs' := by subst hp; exact h

section
variable {X : Cx} {U : Tab} (hU : U.OK X.P) {t : Env} {D : List Fact} {φ : Env → List Fact → Prop}
include hU
end
end Go.Proofs.YtjhinpmnpdgadaaDoor.SL
