/- Literals of rows, strings and bytes, clearing, copying; rounds one by one. -/
import Derived.Test.YtjhinpmnpdgadaaDoorSLi
import Derived.Laws.Externs
import Derived.Lib.SliceRun
namespace Go.Proofs.YtjhinpmnpdgadaaDoor.SL
set_option linter.unusedVariables false
set_option linter.unusedSimpArgs false
open Go

section
variable {X : Cx} {U : Tab} (hU : U.OK X.P) {t : Env} {D : List Fact} {φ : Env → List Fact → Prop} {K : Post}

/-! ### Rounds, one by one -/
/-! ### A row of numbers written out -/
def bsn (t : Env) (k : IntKind) : Nat → List (Nat × Operand) → Option (List Int)
  | _, [] => some []
  | j, (i, x) :: ps => match Nat.beq i j, ev t x, bsn t k (j + 1) ps with
    | true, some (.int k' v), some vs => if k' = k then some (v :: vs) else none
    | _, _, _ => none

theorem fill_nums {N : Nat} {ρ : Root} {a : Act} (ha : EnvOK N ρ t a) {k : IntKind} {pl : Nat → Option (Nat × Nat)} (hpl : ∀ i, pl i = some (i, 1)) : ∀ {ps : List (Nat × Operand)} {j : Nat} {vs : List Int} {cells : Array Value}, bsn t k j ps = some vs → j + vs.length = cells.size →
    Instr.fill pl cells (ps.map fun p => (p.1, a.eval p.2)) = some (cells.toList.take j ++ nums k vs).toArray
  | [], j, vs, cells, h, hl => by
    cases h
    simp only [List.map_nil, Instr.fill, nums, List.append_nil]
    rw [List.take_of_length_le (by simp at hl; simp; omega)]
  | (i, x) :: ps, j, vs, cells, h, hl => by
    unfold bsn at h
    split at h
    · rename_i k' v vs' hb hx hr
      split at h
      · rename_i hk
        subst hk
        cases h
        obtain rfl := Nat.eq_of_beq_eq_true hb
        simp only [List.length_cons] at hl
        have ih := fill_nums ha hpl (cells := cells.setIfInBounds i (.int k' v)) hr (by simp; omega)
        have hlt : ¬ cells.size < i + 1 := by omega
        simp only [List.map_cons, Instr.fill, hpl, ha.ev hx]
        simp [Value.cells, hlt]
        rw [ih]
        congr 2
        rw [Array.toList_setIfInBounds, List.set_eq_take_append_cons_drop, if_pos (by simp; omega)]
        rw [List.take_append, List.length_take, Array.length_toList, Nat.min_eq_left (by omega)]
        simp [nums, List.take_take]
      · cases h
    · cases h

include hU

theorem Step.lit_nums {d : Nat} {ty : TypeId} {n : Nat} {ps : Array (Nat × Operand)} (e by_ : Nat) (kd : IntKind) (z : Value) (xs : List Int) (hty : look U.und ty = some (.slice e)) (hti : look U.ti e = some (1, by_, z)) (hps : bsn t kd 0 ps.toList = some xs) (hn : Nat.beq xs.length n = true) (hsm : Nat.ble n 16777216 = true) (hd : Nat.ble (d + 1) X.N = true)
    (k : ∀ b, φ (put t d (.slice (some ⟨b, 0, none⟩) n n)) (row e 1 (.slice (some ⟨b, 0, none⟩) n n) n (nums kd xs) :: D)) : Step X (some d) (.buildSlice ty n ps) t D φ := by
  intro o hdst hop ρ a w ha hw Q K hK
  obtain ⟨i, hi, h1, h2, h3⟩ := hU.ti _ (look_mem hti)
  simp only at hi h1 h2 h3
  obtain rfl := Nat.eq_of_beq_eq_true hn
  have hsm := Nat.le_of_ble_eq_true hsm
  have hund := hU.und _ (look_mem hty)
  simp only at hund
  have hfill : ∀ (pl : Nat → Option (Nat × Nat)) (cells : Array Value), (∀ i, pl i = some (i, 1)) → cells.size = xs.length → Instr.fill pl cells (ps.map fun p => (p.1, a.eval p.2)).toList = some (nums kd xs).toArray := by
    intro pl cells hpl hc
    have := fill_nums ha hpl (cells := cells) hps (by omega)
    simpa using this
  have hr : (execOp a.eval o).run X.P w = .ok (.value (.slice (some ⟨w.heap.size, 0, none⟩) xs.length xs.length)) (w.alloc (.cells (nums kd xs).toArray e (0, 0))) := by
    unfold execOp
    have h48 : ¬ (xs.length > 2 ^ 24) := by omega
    have hf := fun cells hc => hfill (fun i => some (i, 1)) cells (fun i => rfl) hc
    by_cases h0 : xs.length = 0
    · simp only [hop, Instr.buildSlice, Sem.run_bind, run_underlying hund, Result.andThen_ok, sizeOf, typeInfo, run_program, hi, h1, Sem.run_pure, Nat.mul_one, Sem.run_ite, h48, if_false, h0, if_true]
      rw [hf _ (by simp [h0])]
      simp [newRow]
    · simp only [hop, Instr.buildSlice, Sem.run_bind, run_underlying hund, Result.andThen_ok, sizeOf, typeInfo, run_program, hi, h1, Sem.run_pure, Nat.mul_one, Sem.run_ite, h48, if_false, h0, zeroValue, h3]
      rw [hf _ (by simp)]
      simp [newRow]
  have hs := hw.alloc _ (blk w.heap.size e (nums kd xs)) rfl (blk_new w e _)
  have hs2 := SAT.row_of_blk (s := 1) (n := xs.length) (cap := xs.length) hs (Nat.le_refl _) (by simp only [maxLen]; omega) (by simp [nums_length])
  rw [List.take_of_length_le (by simp [nums_length])] at hs2
  refine wp_val hr (hK _ _ _ _ ?_ hs2 (k w.heap.size))
  rw [hdst]
  exact ha.put (Nat.le_of_ble_eq_true hd) _

/-- Bytes as a string. -/
theorem Step.bytes_str {d : Nat} {src dst : TypeId} {x : Operand} (e k0 : Nat) (f : Fact) (A : Option Addr) (n c : Nat) (xs : List Int) (h1 : look U.und src = some (.slice e)) (h2 : look U.und e = some (.int .u8)) (h3 : look U.und dst = some .string) (hx : ev t x = some (.slice A n c)) (hD : D[k0]? = some f)
    (ht : Tells f A (nums .u8 xs)) (hn : n = xs.length) (hd : Nat.ble (d + 1) X.N = true) (k : φ (put t d (.string (strOfNums xs))) D) : Step X (some d) (.convert src dst x) t D φ := by
  intro o hdst hop ρ a w ha hw Q K hK
  subst hn
  obtain ⟨fp, hP⟩ := hw.get k0 hD
  obtain ⟨q, _, hq⟩ := ht w fp hP
  have hr : (execOp a.eval o).run X.P w = .ok (.value (.string (strOfNums xs))) w := by
    unfold execOp
    have hb : (Conv.bytesToString (.slice A xs.length c)).run X.P w = .ok (.string (strOfNums xs)) w := by
      cases A with
      | none =>
        rcases Nat.eq_zero_or_pos xs.length with h0 | h0
        · rw [List.eq_nil_of_length_eq_zero h0]; simp [Conv.bytesToString, strOfNums]; rfl
        · obtain ⟨_, h, _⟩ := vw_cells hq (by rw [nums_length]; exact h0); cases h
      | some ad =>
        have hl : (loadCells ad xs.length).run X.P w = .ok (nums .u8 xs).toArray w := by
          rcases Nat.eq_zero_or_pos xs.length with h0 | h0
          · rw [List.eq_nil_of_length_eq_zero h0]; simp [loadCells, loadCellsFrom, nums]
          · obtain ⟨a', h, hc⟩ := vw_cells hq (by rw [nums_length]; exact h0)
            cases h
            have := run_loadCells_list (P := X.P) w ad (nums .u8 xs) hc
            rwa [nums_length] at this
        rw [run_bytesToString w ad xs.length c xs hl, foldl_push_bytes]
        simp [strOfNums, ByteArray.empty, ByteArray.emptyWithCapacity]
        rfl
    simp only [hop, ha.ev hx, convert, Sem.run_bind, hU.run_und h1, hU.run_und h2, hU.run_und h3, Result.andThen_ok, hb]
    rfl
  refine wp_val hr (hK _ _ _ _ ?_ hw k)
  rw [hdst]
  exact ha.put (Nat.le_of_ble_eq_true hd) _

end

section
variable {X : Cx} {t : Env} {D : List Fact} {φ : Env → List Fact → Prop}
/-- A function of the library's without a body. -/
theorem Step.extern {d : Option Nat} {c : Operand} {as : Array Operand} {ts : Array TypeId} (f : FuncId) (vs : List Value) (fn : Func) (e : Array Value → Sem Value) (v : Value) (hc : callee t c as.toList = some (f, vs)) (hf : X.P.funcs[f]? = some fn) (hname : (fn.name == "runtime.NumGoroutine") = false) (hb : fn.body.isNone = true) (hn : Extern.findNext fn = none)
    (he : Extern.find fn = some e) (hr : ∀ w, (e vs.toArray).run X.P w = .ok v w) (hd : (d.map fun d => Nat.ble (d + 1) X.N).getD true = true) (k : φ (putO t d v) D) :
    Step X d (.call { callee := .value c, args := as, argTypes := ts }) t D φ := by
  intro o hdst hop ρ a w ha hw Q K hK
  unfold callee at hc
  split at hc
  · rename_i f' first captured us h1 h2
    simp only [Option.some.injEq, Prod.mk.injEq] at hc
    obtain ⟨rfl, rfl⟩ := hc
    have hargs : as.map a.eval = us.toArray := by
      rw [← Array.toList_inj, Array.toList_map]
      exact eval_map ha h2
    have hr' : (execOp a.eval o).run X.P w = .ok (.value v) w := by
      unfold execOp
      have he' : first ++ us.toArray ++ captured = (first.toList ++ us ++ captured.toList).toArray := by rw [← Array.toList_inj]; simp
      simp only [hop, resolve, ha.ev h1, Deferred.ofValue, invoke, hargs, Sem.run_bind, Sem.run_pure, Result.andThen_ok, he', run_callFunc_extern hf hname hb hn he, hr]
    refine wp_val hr' (hK _ _ _ _ ?_ hw k)
    rw [hdst]
    exact ha.putO hd v
  · cases hc
/-- The end, with other facts. -/
theorem kret_rt {U : Tab} {rs : List ResultVar} {Φ : Value → List Fact → Prop} (D2 : List Fact) (h2 : ∀ w0 W w, SAT w0 W D w → SAT w0 W D2 w) (vs : List Value) (ks : List Nat) (D' : List Fact) (h : ResOK U t D rs vs) (hD : (pulls ks D2).1 = D') (ho : D'.all (·.own) = true) (hΦ : Φ (retv vs) D') : kret U rs Φ .ret t D :=
  ⟨vs, D', h, fun f hf => List.all_eq_true.1 ho f hf, fun w0 W w hs => (h2 w0 W w hs).sel ks D' hD, hΦ⟩
end
end Go.Proofs.YtjhinpmnpdgadaaDoor.SL
