/- Appending where the old row is used further; clearing; copying. -/
import Derived.Test.YtkehpipialmneaaSLk
import Derived.Laws.IdiomCopy
import Derived.Laws.CopyRow
namespace Go.Proofs.Ytkehpipialmneaa.SL
set_option linter.unusedVariables false
set_option linter.unusedSimpArgs false
open Go
theorem tells_pairL {f g : Fact} {A : Option Addr} {us : List Value} (h : Tells f A us) : Tells (pair f g) A us := fun w fp ⟨q1, _, h1, _, _, h4, _⟩ => by
  obtain ⟨q, h5, h6⟩ := h w q1 h4
  exact ⟨q, fun b hb => h1 b (h5 b hb), h6⟩
theorem tells_pairR {f g : Fact} {A : Option Addr} {us : List Value} (h : Tells g A us) : Tells (pair f g) A us := fun w fp ⟨_, q2, _, h2, _, _, h5⟩ => by
  obtain ⟨q, h6, h7⟩ := h w q2 h5
  exact ⟨q, fun b hb => h2 b (h6 b hb), h7⟩
theorem pair_own (f g : Fact) : (pair f g).own = true := rfl
/-- One fact that lies over another is let go of. -/
theorem SAT.dropR {w0 : World} {W : FP} {D : List Fact} {w : World} {f g : Fact} (k : Nat) (hk : D[k]? = some (pair f g)) (hf : f.own = true) (h : SAT w0 W D w) : SAT w0 W (f :: D.eraseIdx k) w := (h.pull hk).pairL hf

section
variable {X : Cx} {U : Tab} (hU : U.OK X.P) {t : Env} {D : List Fact} {φ : Env → List Fact → Prop}
include hU

theorem Step.append_keep {d : Nat} {ty : TypeId} {x y : Operand} (e by_ : Nat) (z : Value) (kd : IntKind) (k0 k1 : Nat) (B : Option Addr) (n cap : Nat) (xs : List Int) (A : Option Addr) (m c : Nat) (f : Fact) (ys : List Int)
    (hty : look U.und ty = some (.slice e)) (hti : look U.ti e = some (1, by_, z)) (hzs : Nat.beq z.cells.size 1 = true)
    (hx : ev t x = some (.slice B n cap)) (hy : ev t y = some (.slice A m c)) (hD : D[k0]? = some (row e 1 (.slice B n cap) n (nums kd xs))) (hf : D[k1]? = some f) (hfu : Tells f A (nums kd ys))
    (hm : m = ys.length) (hn : n = xs.length) (h63 : xs.length + ys.length ≤ 140737488355328) (hb : (xs.length + ys.length) * by_ ≤ 140737488355328) (hd : Nat.ble (d + 1) X.N = true)
    (k : ∀ B' cap', (xs ++ ys).length ≤ cap' → (0 < (xs ++ ys).length → B'.isSome = true) → φ (put t d (.slice B' (xs ++ ys).length cap')) (pair (row e 1 (.slice B n cap) n (nums kd xs)) (row e 1 (.slice B' (xs ++ ys).length cap') (xs ++ ys).length (nums kd (xs ++ ys))) :: D.eraseIdx k0)) :
    Step X (some d) (.call { callee := .builtin .append, args := #[x, y], argTypes := #[ty, ty] }) t D φ := by
  subst hm; subst hn
  intro o hdst hop ρ a w ha hw Q K hK
  refine Step.append0 (φ := fun t' D' => ∃ B' cap', t' = put t d (.slice B' (xs ++ ys).length cap') ∧ (0 < (xs ++ ys).length → B'.isSome = true) ∧ D' = pair (row e 1 (.slice B xs.length cap) xs.length (nums kd xs)) (row e 1 (.slice B' (xs ++ ys).length cap') (xs ++ ys).length (nums kd (xs ++ ys))) :: D.eraseIdx k0) hU e 1 by_ z k0 k1 _ xs.length (nums kd xs) A ys.length c f (nums kd ys) hty hti (Nat.eq_of_beq_eq_true hzs) (by decide) hx hy hD hf hfu (by simp [nums_length]) (nums_one kd ys) h63 hb hd (fun v' hv' => ?_) o hdst hop ρ a w ha hw Q K (fun t' D' a' w' h1 h2 h3 => ?_)
  · rw [← nums_append, ← List.length_append]
    rw [← List.length_append] at hv'
    obtain ⟨B', cap', rfl, hs⟩ := hv'
    exact ⟨B', cap', rfl, hs, rfl⟩
  · obtain ⟨B', cap', rfl, hs, rfl⟩ := h3
    refine hK _ _ _ _ h1 h2 (k B' cap' ?_ hs)
    obtain ⟨A', c', hv, hn, _⟩ := row_form (h2.pairR rfl)
    injection hv with _ _ hc
    rw [hc]; exact hn

omit hU in
theorem nums_wrs (k : IntKind) (xs : List Int) (i : Nat) (ys : List Int) : wr (nums k xs) i (nums k ys) = nums k (xs.take i ++ ys ++ xs.drop (i + ys.length)) := by
  simp [wr, nums, List.map_take, List.map_drop]

omit hU in
/-- A part of a row of numbers is written over. -/
theorem row_write {w0 : World} {W : FP} {e n cap : Nat} {A : Option Addr} {kd : IntKind} {xs : List Int} {w : World} (h : SAT w0 W (row e 1 (.slice A n cap) n (nums kd xs) :: D) w) (hn : 0 < n) :
    ∃ b ex, A = some ⟨b, 0, none⟩ ∧ w.heap[b]? = some (.cells (nums kd xs ++ ex).toArray e (0, 0)) ∧ n = xs.length ∧
      ∀ (l : Nat) (ys : List Int), l + ys.length ≤ xs.length → SAT w0 W (row e 1 (.slice A n cap) n (nums kd (xs.take l ++ ys ++ xs.drop (l + ys.length))) :: D) (w.setRow b ((nums kd xs ++ ex).take l ++ nums kd ys ++ (nums kd xs ++ ex).drop (l + (nums kd ys).length)).toArray) := by
  have hlen := (row_len h).1
  rw [nums_length, Nat.mul_one] at hlen
  obtain ⟨b, cap', ex, hv, hnc, hcm, hex, hw2⟩ := row_open h hn
  injection hv with hA _ hcap
  subst hA; subst hcap
  obtain ⟨fp, hh, _⟩ := hw2.head
  refine ⟨b, ex, rfl, hh, hlen.symm, fun l ys hl => ?_⟩
  have h3 := sat_setRow (cs' := nums kd (xs.take l ++ ys ++ xs.drop (l + ys.length)) ++ ex) hw2
  have e1 : (nums kd xs ++ ex).take l ++ nums kd ys ++ (nums kd xs ++ ex).drop (l + (nums kd ys).length) = nums kd (xs.take l ++ ys ++ xs.drop (l + ys.length)) ++ ex := by
    rw [List.take_append_of_le_length (by rw [nums_length]; omega), List.drop_append_of_le_length (by rw [nums_length, nums_length]; omega), nums_length]
    simp [nums, List.map_take, List.map_drop]
  rw [e1]
  have hl2 : (nums kd (xs.take l ++ ys ++ xs.drop (l + ys.length))).length = n * 1 := by rw [nums_length]; simp; omega
  have h4 := SAT.row_of_blk (s := 1) h3 hnc hcm (by rw [List.length_append, hl2]; rw [List.length_append, nums_length] at hex; omega)
  rwa [← hl2, List.take_left] at h4

omit hU in
theorem zeroCells_num (k : IntKind) (n : Nat) : (Builtin.zeroCells (Value.int k 0).cells n).toList = nums k (List.replicate n 0) := by
  simp only [Builtin.zeroCells, nums]
  apply List.ext_getElem
  · simp [Value.cells]
  · intro i h1 h2
    simp [Nat.mod_one, Value.cells]

/-- A row of numbers is cleared. -/
theorem Step.clear_nums {d : Option Nat} {ty : TypeId} {x : Operand} (e by_ : Nat) (kd : IntKind) (k0 n cap : Nat) (A : Option Addr) (xs : List Int) (hty : look U.und ty = some (.slice e)) (hti : look U.ti e = some (1, by_, .int kd 0))
    (hx : ev t x = some (.slice A n cap)) (hD : D[k0]? = some (row e 1 (.slice A n cap) n (nums kd xs))) (hd : (d.map fun d => Nat.ble (d + 1) X.N).getD true = true)
    (k : φ (putO t d (.tuple #[])) (row e 1 (.slice A n cap) n (nums kd (List.replicate n 0)) :: D.eraseIdx k0)) : Step X d (.call { callee := .builtin .clear, args := #[x], argTypes := #[ty] }) t D φ := by
  intro o hdst hop ρ a w ha hw Q K hK
  obtain ⟨i, hi, h1, h2, h3⟩ := hU.ti _ (look_mem hti)
  simp only at hi h1 h2 h3
  have hund := hU.und _ (look_mem hty)
  simp only at hund
  have hw' := hw.pull hD
  have fin : ∀ w', (Builtin.clear_ #[ty] o.type #[.slice A n cap]).run X.P w = .ok (.tuple #[]) w' → SAT ρ.w0 ρ.W (row e 1 (.slice A n cap) n (nums kd (List.replicate n 0)) :: D.eraseIdx k0) w' → wp2 X o a w K Q := by
    intro w' hrun hs
    have hr : (execOp a.eval o).run X.P w = .ok (.value (.tuple #[])) w' := by
      unfold execOp
      simp only [hop, resolve, invoke, builtin, Sem.run_bind, Sem.run_pure, Result.andThen_ok, List.map_toArray, List.map_cons, List.map_nil, ha.ev hx, hrun]
    refine wp_val hr (hK _ _ _ _ ?_ hs k)
    rw [hdst]
    exact ha.putO hd _
  rcases Nat.eq_zero_or_pos n with h0 | h0
  · subst h0
    refine fin w ?_ ?_
    · cases A <;> simp [Builtin.clear_, run_underlying hund]
    · have := (row_len hw').1
      rw [nums_length] at this
      obtain rfl : xs = [] := List.eq_nil_of_length_eq_zero (by omega)
      exact hw'
  · obtain ⟨b, ex, rfl, hh, hn, hset⟩ := row_write hw' h0
    have hst := run_storeCells_at X.P b 0 e (nums kd (List.replicate n 0)) 0 (nums kd xs ++ ex).toArray w hh (by rw [nums_length]; simp [nums_length]; omega) (fun u hu => nums_one _ _ u hu)
    have hs := hset 0 (List.replicate n 0) (by simp; omega)
    have e2 : xs.take 0 ++ List.replicate n 0 ++ xs.drop (0 + (List.replicate n (0 : Int)).length) = List.replicate n 0 := by simp [hn]
    rw [e2] at hs
    refine fin _ ?_ hs
    obtain ⟨m, rfl⟩ : ∃ m, n = m + 1 := ⟨n - 1, by omega⟩
    simp only [Nat.add_zero] at hst
    simp [Builtin.clear_, run_underlying hund, zeroValue, typeInfo, hi, h3, zeroCells_num, hst]

end
end Go.Proofs.Ytkehpipialmneaa.SL
