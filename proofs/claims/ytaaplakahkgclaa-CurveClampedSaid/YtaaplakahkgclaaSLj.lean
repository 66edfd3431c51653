/- Literals of rows, strings and bytes, clearing, copying; rounds one by one. -/
import Derived.Test.YtaaplakahkgclaaSLi
import Derived.Laws.Externs
import Derived.Lib.SliceRun
namespace Go.Proofs.Ytaaplakahkgclaa.SL
set_option linter.unusedVariables false
set_option linter.unusedSimpArgs false
open Go

section
variable {X : Cx} {U : Tab} (hU : U.OK X.P) {t : Env} {D : List Fact} {φ : Env → List Fact → Prop} {K : Post}

/-! ### Rounds, one by one -/
def kround (X : Cx) (c : Code) (K : Post) : Nat → Post
  | 0 => fun e t D => match e with | .normal => False | e => K e t D
  | n + 1 => fun e t D => match e with | .normal => RunC X (kround X c K n) c t D | e => K e t D

theorem RunC.unroll {c : Code} (n : Nat) (h : RunC X (kround X c K n) c t D) : RunC X K (.loop c) t D := by
  intro ρ a w ha hw
  have key : ∀ n ρ' a w, Ext ρ ρ' → c.wpIn X.F 0 X.P (den X ρ' (kround X c K n)) a w → Code.roundsIn X.F 0 X.P c (den X ρ K) (n + 1) a w := by
    intro n
    induction n with
    | zero =>
      intro ρ' a w hx h
      refine wpIn_mono h ?_
      rintro e a w ⟨ρ1, t', D', hx1, h1, h2, h3⟩
      cases e <;> first | exact h3.elim | exact ⟨ρ1, t', D', hx.trans hx1, h1, h2, h3⟩
    | succ n ih =>
      intro ρ' a w hx h
      refine wpIn_mono h ?_
      rintro e a w ⟨ρ1, t', D', hx1, h1, h2, h3⟩
      cases e <;> first | exact ih ρ1 a w (hx.trans hx1) (h3 ρ1 a w h1 h2) | exact ⟨ρ1, t', D', hx.trans hx1, h1, h2, h3⟩
  exact wpIn_loop_rounds _ (key n ρ a w (.refl ρ) (h ρ a w ha hw))

theorem kround_n {c : Code} {n : Nat} (h : RunC X (kround X c K n) c t D) : kround X c K (n + 1) .normal t D := h
theorem kround_e {c : Code} {n j : Nat} (h : K (.exit j) t D) : kround X c K n (.exit j) t D := by cases n <;> exact h

/-! ### A row of numbers written out -/
def bsn (t : Env) (k : IntKind) : Nat → List (Nat × Operand) → Option (List Int)
  | _, [] => some []
  | j, (i, x) :: ps => match Nat.beq i j, ev t x, bsn t k (j + 1) ps with
    | true, some (.int k' v), some vs => if k' = k then some (v :: vs) else none
    | _, _, _ => none

theorem fill_nums {N : Nat} {ρ : Root} {a : Act} (ha : EnvOK N ρ t a) {k : IntKind} {pl : Nat → Option (Nat × Nat)} (hpl : ∀ i, pl i = some (i, 1)) : ∀ {ps : List (Nat × Operand)} {j : Nat} {vs : List Int} {cells : Array Value}, bsn t k j ps = some vs → j + vs.length = cells.size →
    Instr.fill pl cells (ps.map fun p => (p.1, a.eval p.2)) = some (cells.toList.take j ++ nums k vs).toArray
  | [], j, vs, cells, h, hl => by
    cases h
    simp only [List.map_nil, Instr.fill, nums, List.append_nil]
    rw [List.take_of_length_le (by simp at hl; simp; omega)]
  | (i, x) :: ps, j, vs, cells, h, hl => by
    unfold bsn at h
    split at h
    · rename_i k' v vs' hb hx hr
      split at h
      · rename_i hk
        subst hk
        cases h
        obtain rfl := Nat.eq_of_beq_eq_true hb
        simp only [List.length_cons] at hl
        have ih := fill_nums ha hpl (cells := cells.setIfInBounds i (.int k' v)) hr (by simp; omega)
        have hlt : ¬ cells.size < i + 1 := by omega
        simp only [List.map_cons, Instr.fill, hpl, ha.ev hx]
        simp [Value.cells, hlt]
        rw [ih]
        congr 2
        rw [Array.toList_setIfInBounds, List.set_eq_take_append_cons_drop, if_pos (by simp; omega)]
        rw [List.take_append, List.length_take, Array.length_toList, Nat.min_eq_left (by omega)]
        simp [nums, List.take_take]
      · cases h
    · cases h

include hU

theorem Step.lit_nums {d : Nat} {ty : TypeId} {n : Nat} {ps : Array (Nat × Operand)} (e by_ : Nat) (kd : IntKind) (z : Value) (xs : List Int) (hty : look U.und ty = some (.slice e)) (hti : look U.ti e = some (1, by_, z)) (hps : bsn t kd 0 ps.toList = some xs) (hn : Nat.beq xs.length n = true) (hsm : Nat.ble n 16777216 = true) (hd : Nat.ble (d + 1) X.N = true)
    (k : ∀ b, φ (put t d (.slice (some ⟨b, 0, none⟩) n n)) (row e 1 (.slice (some ⟨b, 0, none⟩) n n) n (nums kd xs) :: D)) : Step X (some d) (.buildSlice ty n ps) t D φ := by
  intro o hdst hop ρ a w ha hw Q K hK
  obtain ⟨i, hi, h1, h2, h3⟩ := hU.ti _ (look_mem hti)
  simp only at hi h1 h2 h3
  obtain rfl := Nat.eq_of_beq_eq_true hn
  have hsm := Nat.le_of_ble_eq_true hsm
  have hund := hU.und _ (look_mem hty)
  simp only at hund
  have hfill : ∀ (pl : Nat → Option (Nat × Nat)) (cells : Array Value), (∀ i, pl i = some (i, 1)) → cells.size = xs.length → Instr.fill pl cells (ps.map fun p => (p.1, a.eval p.2)).toList = some (nums kd xs).toArray := by
    intro pl cells hpl hc
    have := fill_nums ha hpl (cells := cells) hps (by omega)
    simpa using this
  have hr : (execOp a.eval o).run X.P w = .ok (.value (.slice (some ⟨w.heap.size, 0, none⟩) xs.length xs.length)) (w.alloc (.cells (nums kd xs).toArray e (0, 0))) := by
    unfold execOp
    have h48 : ¬ (xs.length > 2 ^ 24) := by omega
    have hf := fun cells hc => hfill (fun i => some (i, 1)) cells (fun i => rfl) hc
    by_cases h0 : xs.length = 0
    · simp only [hop, Instr.buildSlice, Sem.run_bind, run_underlying hund, Result.andThen_ok, sizeOf, typeInfo, run_program, hi, h1, Sem.run_pure, Nat.mul_one, Sem.run_ite, h48, if_false, h0, if_true]
      rw [hf _ (by simp [h0])]
      simp [newRow]
    · simp only [hop, Instr.buildSlice, Sem.run_bind, run_underlying hund, Result.andThen_ok, sizeOf, typeInfo, run_program, hi, h1, Sem.run_pure, Nat.mul_one, Sem.run_ite, h48, if_false, h0, zeroValue, h3]
      rw [hf _ (by simp)]
      simp [newRow]
  have hs := hw.alloc _ (blk w.heap.size e (nums kd xs)) rfl (blk_new w e _)
  have hs2 := SAT.row_of_blk (s := 1) (n := xs.length) (cap := xs.length) hs (Nat.le_refl _) (by simp only [maxLen]; omega) (by simp [nums_length])
  rw [List.take_of_length_le (by simp [nums_length])] at hs2
  refine wp_val hr (hK _ _ _ _ ?_ hs2 (k w.heap.size))
  rw [hdst]
  exact ha.put (Nat.le_of_ble_eq_true hd) _

end

section
variable {X : Cx} {t : Env} {D : List Fact} {φ : Env → List Fact → Prop}
/-- A function of the library's without a body. -/
theorem Step.extern {d : Option Nat} {c : Operand} {as : Array Operand} {ts : Array TypeId} (f : FuncId) (vs : List Value) (fn : Func) (e : Array Value → Sem Value) (v : Value) (hc : callee t c as.toList = some (f, vs)) (hf : X.P.funcs[f]? = some fn) (hname : (fn.name == "runtime.NumGoroutine") = false) (hb : fn.body.isNone = true) (hn : Extern.findNext fn = none)
    (he : Extern.find fn = some e) (hr : ∀ w, (e vs.toArray).run X.P w = .ok v w) (hd : (d.map fun d => Nat.ble (d + 1) X.N).getD true = true) (k : φ (putO t d v) D) :
    Step X d (.call { callee := .value c, args := as, argTypes := ts }) t D φ := by
  intro o hdst hop ρ a w ha hw Q K hK
  unfold callee at hc
  split at hc
  · rename_i f' first captured us h1 h2
    simp only [Option.some.injEq, Prod.mk.injEq] at hc
    obtain ⟨rfl, rfl⟩ := hc
    have hargs : as.map a.eval = us.toArray := by
      rw [← Array.toList_inj, Array.toList_map]
      exact eval_map ha h2
    have hr' : (execOp a.eval o).run X.P w = .ok (.value v) w := by
      unfold execOp
      have he' : first ++ us.toArray ++ captured = (first.toList ++ us ++ captured.toList).toArray := by rw [← Array.toList_inj]; simp
      simp only [hop, resolve, ha.ev h1, Deferred.ofValue, invoke, hargs, Sem.run_bind, Sem.run_pure, Result.andThen_ok, he', run_callFunc_extern hf hname hb hn he, hr]
    refine wp_val hr' (hK _ _ _ _ ?_ hw k)
    rw [hdst]
    exact ha.putO hd v
  · cases hc
/-- The end, with other facts. -/
theorem kret_rt {U : Tab} {rs : List ResultVar} {Φ : Value → List Fact → Prop} (D2 : List Fact) (h2 : ∀ w0 W w, SAT w0 W D w → SAT w0 W D2 w) (vs : List Value) (ks : List Nat) (D' : List Fact) (h : ResOK U t D rs vs) (hD : (pulls ks D2).1 = D') (ho : D'.all (·.own) = true) (hΦ : Φ (retv vs) D') : kret U rs Φ .ret t D :=
  ⟨vs, D', h, fun f hf => List.all_eq_true.1 ho f hf, fun w0 W w hs => (h2 w0 W w hs).sel ks D' hD, hΦ⟩
end
end Go.Proofs.Ytaaplakahkgclaa.SL
