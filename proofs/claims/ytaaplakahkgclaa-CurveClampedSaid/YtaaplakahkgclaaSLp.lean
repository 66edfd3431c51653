/- The builtin copy, into a block's segments and into rows. -/
import Derived.Test.YtaaplakahkgclaaSLo
namespace Go.Proofs.Ytaaplakahkgclaa.SL
set_option linter.unusedVariables false
set_option linter.unusedSimpArgs false
open Go

/-- us written over a part of xs. -/
def putl (xs : List Int) (i : Nat) (us : List Int) : List Int := xs.take i ++ us ++ xs.drop (i + us.length)
theorem putl_len {xs us : List Int} {i : Nat} (h : i + us.length ≤ xs.length) : (putl xs i us).length = xs.length := by simp [putl]; omega
theorem In.putl {k : IntKind} {xs us : List Int} {i : Nat} (hx : In k xs) (hu : In k us) : In k (putl xs i us) := ((hx.take _).append hu).append (hx.drop _)
theorem Put.nums {k : IntKind} {xs us : List Int} {i p : Nat} (h : i + us.length ≤ xs.length) (hp : p = i) : Put (nums k xs) p (nums k us) (nums k (putl xs i us)) := by
  subst hp
  refine ⟨nums_wrs _ _ _ _, by simp only [nums_length]; omega⟩
section
variable {X : Cx} {U : Tab} (hU : U.OK X.P) {t : Env} {D : List Fact} {φ : Env → List Fact → Prop}
theorem Step.copy_run {d : Option Nat} {tx ty : TypeId} {x y : Operand} (e n : Nat) (dst src : Value) (D' : List Fact) (hx : ev t x = some dst) (hy : ev t y = some src)
    (hr : ∀ w0 W w o, SAT w0 W D w → ∃ w', (Builtin.copy_ #[tx, ty] o #[dst, src]).run X.P w = .ok (.int .i64 n) w' ∧ SAT w0 W D' w') (hd : (d.map fun d => Nat.ble (d + 1) X.N).getD true = true)
    (k : φ (putO t d (.int .i64 n)) D') : Step X d (.call { callee := .builtin .copy, args := #[x, y], argTypes := #[tx, ty] }) t D φ := by
  intro o hdst hop ρ a w ha hw Q K hK
  obtain ⟨w', hrun, hs⟩ := hr _ _ w o.type hw
  have hr : (execOp a.eval o).run X.P w = .ok (.value (.int .i64 n)) w' := by
    unfold execOp
    simp only [hop, resolve, invoke, builtin, Sem.run_bind, Sem.run_pure, Result.andThen_ok, List.map_toArray, List.map_cons, List.map_nil, ha.ev hx, ha.ev hy, hrun]
  refine wp_val hr (hK _ _ _ _ ?_ hs k)
  rw [hdst]
  exact ha.putO hd _

include hU
theorem info_one {e : TypeId} (h : look U.sz e = some 1) : (X.P.info? e).map (·.size) = some 1 := by
  obtain ⟨i, h1, h2⟩ := hU.sz _ (look_mem h)
  simp [h1, h2]

theorem Step.copy_seg {d : Option Nat} {tx ty : TypeId} {x y : Operand} (e k0 k1 b o T nd cd ns cs_ : Nat) (Ad A : Option Addr) (cs cs' : List Value) (f : Fact) (kd : IntKind) (ys : List Int)
    (hty : look U.und tx = some (.slice e)) (hsz : look U.sz e = some 1) (hx : ev t x = some (.slice Ad nd cd)) (hAd : 0 < nd → Ad = some ⟨b, o, none⟩) (hy : ev t y = some (.slice A ns cs_))
    (hD : D[k0]? = some (blk b T cs)) (hf : D[k1]? = some f) (hfu : Tells f A (nums kd ys)) (hns : ns = ys.length) (hp : Put cs o (nums kd (ys.take nd)) cs') (hd : (d.map fun d => Nat.ble (d + 1) X.N).getD true = true)
    (k : φ (putO t d (.int .i64 ((min ys.length nd : Nat) : Int))) (blk b T cs' :: D.eraseIdx k0)) : Step X d (.call { callee := .builtin .copy, args := #[x, y], argTypes := #[tx, ty] }) t D φ := by
  subst hns
  have hu := hU.und _ (look_mem hty)
  simp only at hu
  have hi := info_one hU (X := X) hsz
  obtain ⟨rfl, h2⟩ := hp
  refine Step.copy_run e (min ys.length nd) _ _ _ hx hy (fun w0 W w to hw => ?_) hd k
  have hw' := hw.pull hD
  by_cases h0 : min ys.length nd = 0
  · refine ⟨w, ?_, ?_⟩
    · rw [h0]; exact run_copy_none w tx ty to e Ad A nd cd ys.length cs_ hu hi h0
    · have e1 : nums kd (ys.take nd) = [] := by
        have : (ys.take nd).length = 0 := by rw [List.length_take]; omega
        rw [List.eq_nil_of_length_eq_zero this]; rfl
      rw [e1, wr]
      simpa using hw'
  · obtain rfl := hAd (by omega)
    obtain ⟨fp, hh, _⟩ := hw'.head
    obtain ⟨fpf, hfP⟩ := hw.get k1 hf
    obtain ⟨q, _, hv⟩ := hfu w fpf hfP
    obtain ⟨a, rfl, hc⟩ := vw_cells hv (by rw [nums_length]; omega)
    have hl : (nums kd (ys.take nd)).length = Nat.min ys.length nd := by rw [nums_length, List.length_take]; exact Nat.min_comm _ _
    have hrun := run_copy_row X.P w tx ty to e b o nd cd a ys.length cs_ cs.toArray T (nums kd (ys.take nd)) hu hi hh hl (fun j v hj => hc j v (by
      have hlt := (List.getElem?_eq_some_iff.1 hj).1
      rw [nums_length, List.length_take] at hlt
      rw [nums, List.map_take, List.getElem?_take] at hj
      rw [if_pos (by omega)] at hj
      exact hj)) (by simpa using h2) (nums_one kd _)
    refine ⟨_, ?_, sat_setRow hw'⟩
    have e2 : goInt ((nums kd (ys.take nd)).length : Int) = .int .i64 ((min ys.length nd : Nat) : Int) := by rw [hl]; rfl
    rw [hrun]
    simp only [e2, wr]

end
end Go.Proofs.Ytaaplakahkgclaa.SL
