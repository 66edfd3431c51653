/- The builtin copy, into a block's segments and into rows. -/
import Derived.Test.YtcpohiegijpghaaSLo
namespace Go.Proofs.Ytcpohiegijpghaa.SL
set_option linter.unusedVariables false
set_option linter.unusedSimpArgs false
open Go

/-- us written over a part of xs. -/
def putl (xs : List Int) (i : Nat) (us : List Int) : List Int := xs.take i ++ us ++ xs.drop (i + us.length)
theorem putl_len {xs us : List Int} {i : Nat} (h : i + us.length ≤ xs.length) : (putl xs i us).length = xs.length := by simp [putl]; omega
theorem In.putl {k : IntKind} {xs us : List Int} {i : Nat} (hx : In k xs) (hu : In k us) : In k (putl xs i us) := ((hx.take _).append hu).append (hx.drop _)
theorem Put.nums {k : IntKind} {xs us : List Int} {i p : Nat} (h : i + us.length ≤ xs.length) (hp : p = i) : Put (nums k xs) p (nums k us) (nums k (putl xs i us)) := by
  subst hp
  refine ⟨nums_wrs _ _ _ _, by simp only [nums_length]; omega⟩
theorem sub_at {b o l m : Nat} (h : m ≠ l) : subBase (some ⟨b, o, none⟩) l m 1 = some ⟨b, o + l, none⟩ := by
  unfold subBase
  rw [if_neg h]
  simp only [Option.map_some, Addr.add, Nat.mul_one]
  split
  · rename_i h0; subst h0; rfl
  · rfl

section
variable {X : Cx} {U : Tab} (hU : U.OK X.P) {t : Env} {D : List Fact} {φ : Env → List Fact → Prop}
theorem Step.copy_run {d : Option Nat} {tx ty : TypeId} {x y : Operand} (e n : Nat) (dst src : Value) (D' : List Fact) (hx : ev t x = some dst) (hy : ev t y = some src)
    (hr : ∀ w0 W w o, SAT w0 W D w → ∃ w', (Builtin.copy_ #[tx, ty] o #[dst, src]).run X.P w = .ok (.int .i64 n) w' ∧ SAT w0 W D' w') (hd : (d.map fun d => Nat.ble (d + 1) X.N).getD true = true)
    (k : φ (putO t d (.int .i64 n)) D') : Step X d (.call { callee := .builtin .copy, args := #[x, y], argTypes := #[tx, ty] }) t D φ := by
  intro o hdst hop ρ a w ha hw Q K hK
  obtain ⟨w', hrun, hs⟩ := hr _ _ w o.type hw
  have hr : (execOp a.eval o).run X.P w = .ok (.value (.int .i64 n)) w' := by
    unfold execOp
    simp only [hop, resolve, invoke, builtin, Sem.run_bind, Sem.run_pure, Result.andThen_ok, List.map_toArray, List.map_cons, List.map_nil, ha.ev hx, ha.ev hy, hrun]
  refine wp_val hr (hK _ _ _ _ ?_ hs k)
  rw [hdst]
  exact ha.putO hd _

include hU
theorem info_one {e : TypeId} (h : look U.sz e = some 1) : (X.P.info? e).map (·.size) = some 1 := by
  obtain ⟨i, h1, h2⟩ := hU.sz _ (look_mem h)
  simp [h1, h2]

theorem Step.copy_row {d : Option Nat} {tx ty : TypeId} {x y : Operand} (e k0 k1 l n cap nd cd ns cs_ : Nat) (B Ad A : Option Addr) (xs : List Int) (f : Fact) (kd : IntKind) (ys : List Int)
    (hty : look U.und tx = some (.slice e)) (hsz : look U.sz e = some 1) (hx : ev t x = some (.slice Ad nd cd)) (hAd : 0 < nd → ∀ b, B = some ⟨b, 0, none⟩ → Ad = some ⟨b, l, none⟩) (hy : ev t y = some (.slice A ns cs_))
    (hD : D[k0]? = some (row e 1 (.slice B n cap) n (nums kd xs))) (hf : D[k1]? = some f) (hfu : Tells f A (nums kd ys)) (hns : ns = ys.length) (hl : l + nd ≤ n) (hd : (d.map fun d => Nat.ble (d + 1) X.N).getD true = true)
    (k : φ (putO t d (.int .i64 ((min ys.length nd : Nat) : Int))) (row e 1 (.slice B n cap) n (nums kd (putl xs l (ys.take nd))) :: D.eraseIdx k0)) : Step X d (.call { callee := .builtin .copy, args := #[x, y], argTypes := #[tx, ty] }) t D φ := by
  subst hns
  have hu := hU.und _ (look_mem hty)
  simp only at hu
  have hi := info_one hU (X := X) hsz
  refine Step.copy_run e (min ys.length nd) _ _ _ hx hy (fun w0 W w to hw => ?_) hd k
  have hw' := hw.pull hD
  by_cases h0 : min ys.length nd = 0
  · refine ⟨w, ?_, ?_⟩
    · rw [h0]; exact run_copy_none w tx ty to e Ad A nd cd ys.length cs_ hu hi h0
    · have e1 : ys.take nd = [] := List.eq_nil_of_length_eq_zero (by rw [List.length_take]; omega)
      rw [e1, putl]
      simpa using hw'
  · obtain ⟨b, ex, rfl, hh, hn, hset⟩ := row_write hw' (by omega)
    obtain rfl := hAd (by omega) b rfl
    obtain ⟨fpf, hfP⟩ := hw.get k1 hf
    obtain ⟨q, _, hv⟩ := hfu w fpf hfP
    obtain ⟨a, rfl, hc⟩ := vw_cells hv (by rw [nums_length]; omega)
    have hl1 : (nums kd (ys.take nd)).length = Nat.min ys.length nd := by rw [nums_length, List.length_take]; exact Nat.min_comm _ _
    have hl2 : (ys.take nd).length ≤ nd := by rw [List.length_take]; omega
    have hrun := run_copy_row X.P w tx ty to e b l nd cd a ys.length cs_ (nums kd xs ++ ex).toArray e (nums kd (ys.take nd)) hu hi hh hl1 (fun j v hj => hc j v (by
      have hlt := (List.getElem?_eq_some_iff.1 hj).1
      rw [nums_length, List.length_take] at hlt
      rw [nums, List.map_take, List.getElem?_take] at hj
      rw [if_pos (by omega)] at hj
      exact hj)) (by rw [nums_length]; simp [nums_length]; omega) (nums_one kd _)
    refine ⟨_, ?_, hset l (ys.take nd) (by omega)⟩
    have e2 : goInt ((nums kd (ys.take nd)).length : Int) = .int .i64 ((min ys.length nd : Nat) : Int) := by rw [hl1]; rfl
    rw [hrun]
    simp only [e2]
end
end Go.Proofs.Ytcpohiegijpghaa.SL
