import Derived.Test.YtlibhidhfbecbaaSLr
import Derived.LoopN
import Derived.Laws.BytesArg
import Derived.Lib.ConvBytes
import Derived.Laws.Externs
import Derived.Lib.SliceRun
import Derived.Laws.IdiomCopy
import Derived.Laws.CopyRow
/- Rows of numbers: made, grown, read, written; copies. -/
namespace Go.Proofs.Ytlibhidhfbecbaa.SL
set_option linter.unusedVariables false
set_option linter.unusedSimpArgs false
open Go

def Tells (f : Fact) (A : Option Addr) (us : List Value) : Prop := ∀ w fp, f.P w fp → ∃ q : FP, (∀ b, q b → fp b) ∧ (vw A us).P w q

theorem tells_vw (A : Option Addr) (us : List Value) : Tells (vw A us) A us := fun _ fp h => ⟨fp, fun _ hb => hb, h⟩
theorem tells_row (T s n cap : Nat) (A : Option Addr) (cs : List Value) : Tells (row T s (.slice A n cap) n cs) A cs := fun w fp h => vw_of_row w fp h
theorem tells_blk (b T o : Nat) (cs us : List Value) (hu : us = (cs.drop o).take us.length) : Tells (blk b T cs) (some ⟨b, o, none⟩) us := fun w fp h => vw_of_blk o us hu w fp h
theorem tells_part {f : Fact} {A : Option Addr} {cs : List Value} (h : Tells f A cs) (l m s : Nat) (us : List Value) (hu : us = (cs.drop (l * s)).take us.length) (hm : us ≠ [] → m ≠ l) : Tells f (subBase A l m s) us := fun w fp hp => by
  obtain ⟨q, h1, h2⟩ := h w fp hp
  obtain ⟨q', h3, h4⟩ := vw_part l m s us hu hm w q h2
  exact ⟨q', fun b hb => h1 b (h3 b hb), h4⟩
theorem tells_take {f : Fact} {A : Option Addr} {cs : List Value} (h : Tells f A cs) (us : List Value) (hu : us = cs.take us.length) : Tells f A us := fun w fp hp => by
  obtain ⟨q, h1, h2⟩ := h w fp hp
  refine ⟨q, h1, h2.1, fun hp => ?_⟩
  have hlen : us.length ≤ cs.length := by have := congrArg List.length hu; simp at this; omega
  obtain ⟨a, h3, h4, h5⟩ := h2.2 (by omega)
  refine ⟨a, h3, h4, fun j v hv => h5 j v ?_⟩
  rw [hu, List.getElem?_take] at hv
  split at hv
  · exact hv
  · cases hv

theorem Lend.tells {D V : List Fact} (h : Lend D V) (k : Nat) (f : Fact) (A : Option Addr) (us : List Value) (hf : D[k]? = some f) (hi : Tells f A us) : Lend D (vw A us :: V) := h.cons k f _ hf rfl hi

section
variable {X : Cx} {U : Tab} (hU : U.OK X.P) {t : Env} {D : List Fact} {φ : Env → List Fact → Prop}

omit hU in
theorem cells_at {A : Option Addr} {us : List Value} {w : World} {fp : FP} (h : (vw A us).P w fp) {p : Nat} (hp : p < us.length) : ∃ a, A = some a ∧ ∀ j u, us[p + j]? = some u → w.cell? ((a.add p).add j) = some u := by
  obtain ⟨ad, rfl, hc⟩ := vw_cells h (by omega)
  refine ⟨ad, rfl, fun j u hu => ?_⟩
  rcases Nat.eq_zero_or_pos p with h0 | h0
  · subst h0
    have := hc (0 + j) u hu
    simpa [Addr.add] using this
  · rcases Nat.eq_zero_or_pos j with h1 | h1
    · subst h1
      have := hc _ u hu
      simpa [Addr.add] using this
    · have := hc _ u hu
      have e : (ad.add p).add j = ad.add (p + j) := by
        unfold Addr.add
        rw [if_neg (by omega), if_neg (by omega), if_neg (by omega)]
        simp [Nat.add_assoc]
      rw [e]
      exact this

include hU

theorem run_load_tells {ty : TypeId} {x : Operand} {f : Fact} {A : Option Addr} {i : Int} {s : Nat} {us : List Value} {v : Value} (ht : Tells f A us) (hv : loadv U ty us (i.toNat * s) = some v) (hlt : i.toNat * s < us.length)
    {o : Oper} (hop : o.op = .load ty x) {a : Act} (hx : a.eval x = .pointer (elemAt A i s)) {w : World} {fp : FP} (hP : f.P w fp) : (execOp a.eval o).run X.P w = .ok (.value v) w := by
  obtain ⟨q, _, hq⟩ := ht w fp hP
  obtain ⟨ad, rfl, hc⟩ := cells_at hq hlt
  unfold execOp
  simp only [hop, hx]
  have := run_loadv hU (X := X) hv (a := ad.add (i.toNat * s)) (w := w) hc
  rw [Sem.run_bind, show elemAt (some ad) i s = some (ad.add (i.toNat * s)) from rfl, this]
  rfl

omit hU in
theorem Step.after {dst : Option Tmp} {op : Op} (h : Step X dst op t D (fun t' D' => ∃ D2, (∀ w0 W w, SAT w0 W D' w → SAT w0 W D2 w) ∧ φ t' D2)) : Step X dst op t D φ :=
  fun o hd ho ρ a w ha hw Q K hK => h o hd ho ρ a w ha hw Q K (fun t' D' a' w' h1 h2 ⟨D2, h3, h4⟩ => hK t' D2 a' w' h1 (h3 _ _ w' h2) h4)

theorem Step.load {d : Nat} {ty : TypeId} {x : Operand} (k0 : Nat) (f : Fact) (A : Option Addr) (i : Int) (s : Nat) (us : List Value) (v : Value) (hx : ev t x = some (.pointer (elemAt A i s))) (hD : D[k0]? = some f) (ht : Tells f A us) (hlt : i.toNat * s < us.length) (hv : loadv U ty us (i.toNat * s) = some v)
    (hd : Nat.ble (d + 1) X.N = true) (k : φ (put t d v) D) : Step X (some d) (.load ty x) t D φ := by
  intro op hdst hop ρ a w ha hw Q K hK
  obtain ⟨fp, hh⟩ := hw.get k0 hD
  refine wp_val (run_load_tells hU ht hv hlt hop (ha.ev hx) hh) (hK _ _ _ _ ?_ hw k)
  rw [hdst]
  exact ha.put (Nat.le_of_ble_eq_true hd) _

theorem Reads.load {Θ : List Fact} {d : Option Nat} {ty : TypeId} {x : Operand} (k0 : Nat) (f : Fact) (A : Option Addr) (i : Int) (s : Nat) (us : List Value) (v : Value) (hx : ev t x = some (.pointer (elemAt A i s))) (hD : Θ[k0]? = some f) (ht : Tells f A us) (hlt : i.toNat * s < us.length) (hv : loadv U ty us (i.toNat * s) = some v) :
    Reads X Θ d (.load ty x) t v := by
  intro op hdst hop ρ a w ha hΘ
  obtain ⟨fp, hP⟩ := hΘ f (List.mem_of_getElem? hD)
  exact run_load_tells hU ht hv hlt hop (ha.ev hx) hP

theorem Reads.load_blk {Θ : List Fact} {d : Option Nat} {ty : TypeId} {x : Operand} (k0 : Nat) (b o T : Nat) (cs : List Value) (v : Value) (hx : ev t x = some (.pointer (some ⟨b, o, none⟩))) (hD : Θ[k0]? = some (blk b T cs)) (hv : loadv U ty cs o = some v) :
    Reads X Θ d (.load ty x) t v := by
  intro op hdst hop ρ a w ha hΘ
  obtain ⟨fp, hh, _⟩ := hΘ _ (List.mem_of_getElem? hD)
  unfold execOp
  simp only [hop, ha.ev hx]
  have := run_loadv hU (X := X) hv (a := ⟨b, o, none⟩) (w := w) (fun j u hu => by rw [Addr.add_mid, cell_of_row w b _ _ T _ hh]; simpa using hu)
  rw [Sem.run_bind, this]
  rfl

omit hU in
theorem loadv_num {ty : TypeId} {k : IntKind} (hty : look U.und ty = some (.int k)) (xs : List Int) (i : Nat) (h : i < xs.length) : loadv U ty (nums k xs) i = some (.int k (xs.getD i 0)) := by
  unfold loadv
  rw [show isRowTy U ty = some false by unfold isRowTy; rw [hty]]
  exact nums_get k xs i h

theorem Step.store_row {ty : TypeId} {x y : Operand} (k0 : Nat) (T s n cap : Nat) (A : Option Addr) (cs : List Value) (i : Int) (v : Value) (hx : ev t x = some (.pointer (elemAt A i s))) (hy : ev t y = some v) (hD : D[k0]? = some (row T s (.slice A n cap) n cs))
    (m : Nat) (hm : look U.sz ty = some m) (us : List Value) (hus : v.cells.toList = us) (hl : us.length = m) (h1 : us.all (·.oneCell') = true) (hle : i.toNat * s + m ≤ cs.length) (hlt : i.toNat * s < cs.length)
    (k : φ t (row T s (.slice A n cap) n (wr cs (i.toNat * s) us) :: D.eraseIdx k0)) : Step X none (.store ty x y) t D φ := by
  intro op hdst hop ρ a w ha hw Q K hK
  have hw' := hw.pull hD
  have hlen := (row_len hw').1
  have hn : 0 < n := by
    rcases Nat.eq_zero_or_pos n with h0 | h0
    · rw [h0] at hlen; simp at hlen; rw [hlen] at hlt; simp at hlt
    · exact h0
  obtain ⟨b, cap', ex, hv, hnc, hcm, hex, hw2⟩ := row_open hw' hn
  injection hv with hA _ hcap
  subst hA; subst hcap
  obtain ⟨fp, hh, _⟩ := hw2.head
  have hst := run_storeCells_at X.P b (i.toNat * s) T us 0 (cs ++ ex).toArray w hh (by simp; omega) (fun u hu => List.all_eq_true.1 h1 u hu)
  simp only [Nat.add_zero] at hst
  have hwr : wr (cs ++ ex) (i.toNat * s) us = wr cs (i.toNat * s) us ++ ex := by
    unfold wr
    rw [List.take_append_of_le_length (by omega), List.drop_append_of_le_length (by omega)]
    simp
  have hr : (execOp a.eval op).run X.P w = .ok .skip (w.setRow b (wr (cs ++ ex) (i.toNat * s) us).toArray) := by
    unfold execOp
    have hsz : ¬ (v.cells.size ≠ m) := by rw [← hl, ← hus]; simp
    have he : elemAt (some (⟨b, 0, none⟩ : Addr)) i s = some ⟨b, i.toNat * s, none⟩ := by simp [elemAt, Addr.add_mid]
    simp only [hop, ha.ev hx, ha.ev hy, he, Instr.storeAt, Instr.sureAddr, storeVar, Sem.run_bind, Sem.run_pure, Result.andThen_ok, hU.run_sz hm, hsz, if_false]
    rw [hus, hst]
    simp [wr]
  have h3 := sat_setRow (cs' := wr (cs ++ ex) (i.toNat * s) us) hw2
  rw [hwr] at h3
  have hl2 : (wr cs (i.toNat * s) us).length = n * s := by rw [length_wr (by omega), hlen]
  have h4 := SAT.row_of_blk (s := s) h3 hnc hcm (by rw [List.length_append, hl2]; rw [List.length_append, hlen] at hex; exact hex)
  rw [← hl2, List.take_left] at h4
  rw [← hwr] at h4
  refine wp_unit hr (hK _ _ _ _ ?_ h4 k)
  rw [hdst]
  exact ha

omit hU in
theorem madeCells_num (k : IntKind) (n : Nat) : (madeCells (Value.int k 0).cells (n * 1)).toList = nums k (List.replicate n 0) := by
  rw [show (Value.int k 0).cells = #[Value.int k 0] from rfl, Nat.mul_one, toList_madeCells_one, nums, List.map_replicate]

theorem Step.make_nums {d : Nat} {ty : TypeId} {x y : Operand} (e by_ : Nat) (kd kl kc : IntKind) (l : Int) (hty : look U.und ty = some (.slice e)) (hti : look U.ti e = some (1, by_, .int kd 0)) (hx : ev t x = some (.int kl l)) (hy : ev t y = some (.int kc l))
    (hl : 0 ≤ l ∧ l ≤ 140737488355328) (hb : (by_ : Int) * l ≤ 281474976710656) (hd : Nat.ble (d + 1) X.N = true)
    (k : ∀ b, φ (put t d (.slice (some ⟨b, 0, none⟩) l.toNat l.toNat)) (row e 1 (.slice (some ⟨b, 0, none⟩) l.toNat l.toNat) l.toNat (nums kd (List.replicate l.toNat 0)) :: D)) : Step X (some d) (.makeSlice ty x y) t D φ := by
  refine Step.after (Step.make hU e 1 by_ (.int kd 0) kl kc l l hty hti hx hy hl.1 (by omega) hb (by omega) hd (fun b => ?_))
  rw [madeCells_num]
  refine ⟨_, fun _ _ w hs => ?_, k b⟩
  have := SAT.row_of_blk (s := 1) (n := l.toNat) (cap := l.toNat) hs (Nat.le_refl _) (by simp only [maxLen]; omega) (by simp [nums_length])
  rwa [List.take_of_length_le (by simp [nums_length])] at this

theorem Step.append_nums {d : Nat} {ty : TypeId} {x y : Operand} (e by_ : Nat) (z : Value) (kd : IntKind) (k0 k1 : Nat) (B : Option Addr) (n cap : Nat) (xs : List Int) (A : Option Addr) (m c : Nat) (f : Fact) (ys : List Int)
    (hty : look U.und ty = some (.slice e)) (hti : look U.ti e = some (1, by_, z)) (hzs : Nat.beq z.cells.size 1 = true)
    (hx : ev t x = some (.slice B n cap)) (hy : ev t y = some (.slice A m c)) (hD : D[k0]? = some (row e 1 (.slice B n cap) n (nums kd xs))) (hf : D[k1]? = some f) (hfu : Tells f A (nums kd ys))
    (hm : m = ys.length) (hn : n = xs.length) (h63 : xs.length + ys.length ≤ 140737488355328) (hb : (xs.length + ys.length) * by_ ≤ 140737488355328) (hd : Nat.ble (d + 1) X.N = true)
    (k : ∀ B' cap', (xs ++ ys).length ≤ cap' → (0 < (xs ++ ys).length → B'.isSome = true) → φ (put t d (.slice B' (xs ++ ys).length cap')) (row e 1 (.slice B' (xs ++ ys).length cap') (xs ++ ys).length (nums kd (xs ++ ys)) :: D.eraseIdx k0)) :
    Step X (some d) (.call { callee := .builtin .append, args := #[x, y], argTypes := #[ty, ty] }) t D φ := by
  subst hm; subst hn
  intro o hdst hop ρ a w ha hw Q K hK
  refine Step.append (φ := fun t' D' => ∃ B' cap', t' = put t d (.slice B' (xs ++ ys).length cap') ∧ (0 < (xs ++ ys).length → B'.isSome = true) ∧ D' = row e 1 (.slice B' (xs ++ ys).length cap') (xs ++ ys).length (nums kd (xs ++ ys)) :: D.eraseIdx k0) hU e 1 by_ z k0 k1 _ xs.length (nums kd xs) A ys.length c f (nums kd ys) hty hti (Nat.eq_of_beq_eq_true hzs) (by decide) hx hy hD hf hfu (by simp [nums_length]) (nums_one kd ys) h63 hb hd (fun v' hv' => ?_) o hdst hop ρ a w ha hw Q K (fun t' D' a' w' h1 h2 h3 => ?_)
  · rw [← nums_append, ← List.length_append]
    rw [← List.length_append] at hv'
    obtain ⟨B', cap', rfl, hs⟩ := hv'
    exact ⟨B', cap', rfl, hs, rfl⟩
  · obtain ⟨B', cap', rfl, hs, rfl⟩ := h3
    refine hK _ _ _ _ h1 h2 (k B' cap' ?_ hs)
    obtain ⟨A', c', hv, hn, _⟩ := row_form h2
    injection hv with _ _ hc
    rw [hc]; exact hn
end
end Go.Proofs.Ytlibhidhfbecbaa.SL

/- Literals of rows, strings and bytes, clearing, copying; rounds one by one. -/
namespace Go.Proofs.Ytlibhidhfbecbaa.SL
set_option linter.unusedVariables false
set_option linter.unusedSimpArgs false
open Go

section
variable {X : Cx} {U : Tab} (hU : U.OK X.P) {t : Env} {D : List Fact} {φ : Env → List Fact → Prop} {K : Post}

def kround (X : Cx) (c : Code) (K : Post) : Nat → Post
  | 0 => fun e t D => match e with | .normal => False | e => K e t D
  | n + 1 => fun e t D => match e with | .normal => RunC X (kround X c K n) c t D | e => K e t D

theorem RunC.unroll {c : Code} (n : Nat) (h : RunC X (kround X c K n) c t D) : RunC X K (.loop c) t D := by
  intro ρ a w ha hw
  have key : ∀ n ρ' a w, Ext ρ ρ' → c.wpIn X.F 0 X.P (den X ρ' (kround X c K n)) a w → Code.roundsIn X.F 0 X.P c (den X ρ K) (n + 1) a w := by
    intro n
    induction n with
    | zero =>
      intro ρ' a w hx h
      refine wpIn_mono h ?_
      rintro e a w ⟨ρ1, t', D', hx1, h1, h2, h3⟩
      cases e <;> first | exact h3.elim | exact ⟨ρ1, t', D', hx.trans hx1, h1, h2, h3⟩
    | succ n ih =>
      intro ρ' a w hx h
      refine wpIn_mono h ?_
      rintro e a w ⟨ρ1, t', D', hx1, h1, h2, h3⟩
      cases e <;> first | exact ih ρ1 a w (hx.trans hx1) (h3 ρ1 a w h1 h2) | exact ⟨ρ1, t', D', hx.trans hx1, h1, h2, h3⟩
  exact wpIn_loop_rounds _ (key n ρ a w (.refl ρ) (h ρ a w ha hw))

theorem kround_n {c : Code} {n : Nat} (h : RunC X (kround X c K n) c t D) : kround X c K (n + 1) .normal t D := h
theorem kround_r {c : Code} {n : Nat} (h : K .ret t D) : kround X c K n .ret t D := by cases n <;> exact h
theorem kround_e {c : Code} {n j : Nat} (h : K (.exit j) t D) : kround X c K n (.exit j) t D := by cases n <;> exact h

def bsn (t : Env) (k : IntKind) : Nat → List (Nat × Operand) → Option (List Int)
  | _, [] => some []
  | j, (i, x) :: ps => match Nat.beq i j, ev t x, bsn t k (j + 1) ps with
    | true, some (.int k' v), some vs => if k' = k then some (v :: vs) else none
    | _, _, _ => none

theorem fill_nums {N : Nat} {ρ : Root} {a : Act} (ha : EnvOK N ρ t a) {k : IntKind} {pl : Nat → Option (Nat × Nat)} (hpl : ∀ i, pl i = some (i, 1)) : ∀ {ps : List (Nat × Operand)} {j : Nat} {vs : List Int} {cells : Array Value}, bsn t k j ps = some vs → j + vs.length = cells.size →
    Instr.fill pl cells (ps.map fun p => (p.1, a.eval p.2)) = some (cells.toList.take j ++ nums k vs).toArray
  | [], j, vs, cells, h, hl => by
    cases h
    simp only [List.map_nil, Instr.fill, nums, List.append_nil]
    rw [List.take_of_length_le (by simp at hl; simp; omega)]
  | (i, x) :: ps, j, vs, cells, h, hl => by
    unfold bsn at h
    split at h
    · rename_i k' v vs' hb hx hr
      split at h
      · rename_i hk
        subst hk
        cases h
        obtain rfl := Nat.eq_of_beq_eq_true hb
        simp only [List.length_cons] at hl
        have ih := fill_nums ha hpl (cells := cells.setIfInBounds i (.int k' v)) hr (by simp; omega)
        have hlt : ¬ cells.size < i + 1 := by omega
        simp only [List.map_cons, Instr.fill, hpl, ha.ev hx]
        simp [Value.cells, hlt]
        rw [ih]
        congr 2
        rw [Array.toList_setIfInBounds, List.set_eq_take_append_cons_drop, if_pos (by simp; omega)]
        rw [List.take_append, List.length_take, Array.length_toList, Nat.min_eq_left (by omega)]
        simp [nums, List.take_take]
      · cases h
    · cases h

include hU

theorem Step.lit_nums {d : Nat} {ty : TypeId} {n : Nat} {ps : Array (Nat × Operand)} (e by_ : Nat) (kd : IntKind) (z : Value) (xs : List Int) (hty : look U.und ty = some (.slice e)) (hti : look U.ti e = some (1, by_, z)) (hps : bsn t kd 0 ps.toList = some xs) (hn : Nat.beq xs.length n = true) (hsm : Nat.ble n 16777216 = true) (hd : Nat.ble (d + 1) X.N = true)
    (k : ∀ b, φ (put t d (.slice (some ⟨b, 0, none⟩) n n)) (row e 1 (.slice (some ⟨b, 0, none⟩) n n) n (nums kd xs) :: D)) : Step X (some d) (.buildSlice ty n ps) t D φ := by
  intro o hdst hop ρ a w ha hw Q K hK
  obtain ⟨i, hi, h1, h2, h3⟩ := hU.ti _ (look_mem hti)
  simp only at hi h1 h2 h3
  obtain rfl := Nat.eq_of_beq_eq_true hn
  have hsm := Nat.le_of_ble_eq_true hsm
  have hund := hU.und _ (look_mem hty)
  simp only at hund
  have hfill : ∀ (pl : Nat → Option (Nat × Nat)) (cells : Array Value), (∀ i, pl i = some (i, 1)) → cells.size = xs.length → Instr.fill pl cells (ps.map fun p => (p.1, a.eval p.2)).toList = some (nums kd xs).toArray := by
    intro pl cells hpl hc
    have := fill_nums ha hpl (cells := cells) hps (by omega)
    simpa using this
  have hr : (execOp a.eval o).run X.P w = .ok (.value (.slice (some ⟨w.heap.size, 0, none⟩) xs.length xs.length)) (w.alloc (.cells (nums kd xs).toArray e (0, 0))) := by
    unfold execOp
    have h48 : ¬ (xs.length > 2 ^ 24) := by omega
    have hf := fun cells hc => hfill (fun i => some (i, 1)) cells (fun i => rfl) hc
    by_cases h0 : xs.length = 0
    · simp only [hop, Instr.buildSlice, Sem.run_bind, run_underlying hund, Result.andThen_ok, sizeOf, typeInfo, run_program, hi, h1, Sem.run_pure, Nat.mul_one, Sem.run_ite, h48, if_false, h0, if_true]
      rw [hf _ (by simp [h0])]
      simp [newRow]
    · simp only [hop, Instr.buildSlice, Sem.run_bind, run_underlying hund, Result.andThen_ok, sizeOf, typeInfo, run_program, hi, h1, Sem.run_pure, Nat.mul_one, Sem.run_ite, h48, if_false, h0, zeroValue, h3]
      rw [hf _ (by simp)]
      simp [newRow]
  have hs := hw.alloc _ (blk w.heap.size e (nums kd xs)) rfl (blk_new w e _)
  have hs2 := SAT.row_of_blk (s := 1) (n := xs.length) (cap := xs.length) hs (Nat.le_refl _) (by simp only [maxLen]; omega) (by simp [nums_length])
  rw [List.take_of_length_le (by simp [nums_length])] at hs2
  refine wp_val hr (hK _ _ _ _ ?_ hs2 (k w.heap.size))
  rw [hdst]
  exact ha.put (Nat.le_of_ble_eq_true hd) _

theorem Step.bytes_str {d : Nat} {src dst : TypeId} {x : Operand} (e k0 : Nat) (f : Fact) (A : Option Addr) (n c : Nat) (xs : List Int) (h1 : look U.und src = some (.slice e)) (h2 : look U.und e = some (.int .u8)) (h3 : look U.und dst = some .string) (hx : ev t x = some (.slice A n c)) (hD : D[k0]? = some f)
    (ht : Tells f A (nums .u8 xs)) (hn : n = xs.length) (hd : Nat.ble (d + 1) X.N = true) (k : φ (put t d (.string (strOfNums xs))) D) : Step X (some d) (.convert src dst x) t D φ := by
  intro o hdst hop ρ a w ha hw Q K hK
  subst hn
  obtain ⟨fp, hP⟩ := hw.get k0 hD
  obtain ⟨q, _, hq⟩ := ht w fp hP
  have hr : (execOp a.eval o).run X.P w = .ok (.value (.string (strOfNums xs))) w := by
    unfold execOp
    have hb : (Conv.bytesToString (.slice A xs.length c)).run X.P w = .ok (.string (strOfNums xs)) w := by
      cases A with
      | none =>
        rcases Nat.eq_zero_or_pos xs.length with h0 | h0
        · rw [List.eq_nil_of_length_eq_zero h0]; simp [Conv.bytesToString, strOfNums]; rfl
        · obtain ⟨_, h, _⟩ := vw_cells hq (by rw [nums_length]; exact h0); cases h
      | some ad =>
        have hl : (loadCells ad xs.length).run X.P w = .ok (nums .u8 xs).toArray w := by
          rcases Nat.eq_zero_or_pos xs.length with h0 | h0
          · rw [List.eq_nil_of_length_eq_zero h0]; simp [loadCells, loadCellsFrom, nums]
          · obtain ⟨a', h, hc⟩ := vw_cells hq (by rw [nums_length]; exact h0)
            cases h
            have := run_loadCells_list (P := X.P) w ad (nums .u8 xs) hc
            rwa [nums_length] at this
        rw [run_bytesToString w ad xs.length c xs hl, foldl_push_bytes]
        simp [strOfNums, ByteArray.empty, ByteArray.emptyWithCapacity]
        rfl
    simp only [hop, ha.ev hx, convert, Sem.run_bind, hU.run_und h1, hU.run_und h2, hU.run_und h3, Result.andThen_ok, hb]
    rfl
  refine wp_val hr (hK _ _ _ _ ?_ hw k)
  rw [hdst]
  exact ha.put (Nat.le_of_ble_eq_true hd) _

end

section
variable {X : Cx} {t : Env} {D : List Fact} {φ : Env → List Fact → Prop}
theorem kret_rt {U : Tab} {rs : List ResultVar} {Φ : Value → List Fact → Prop} (D2 : List Fact) (h2 : ∀ w0 W w, SAT w0 W D w → SAT w0 W D2 w) (vs : List Value) (ks : List Nat) (D' : List Fact) (h : ResOK U t D rs vs) (hD : (pulls ks D2).1 = D') (ho : D'.all (·.own) = true) (hΦ : Φ (retv vs) D') : kret U rs Φ .ret t D :=
  ⟨vs, D', h, fun f hf => List.all_eq_true.1 ho f hf, fun w0 W w hs => (h2 w0 W w hs).sel ks D' hD, hΦ⟩
end
end Go.Proofs.Ytlibhidhfbecbaa.SL

/- Reading and writing single numbers. -/
namespace Go.Proofs.Ytlibhidhfbecbaa.SL
set_option linter.unusedVariables false
set_option linter.unusedSimpArgs false
open Go
section
variable {X : Cx} {U : Tab} (hU : U.OK X.P) {t : Env} {D : List Fact} {φ : Env → List Fact → Prop}
include hU
theorem Step.load_num {d : Nat} {ty : TypeId} {x : Operand} (k0 : Nat) (f : Fact) (A : Option Addr) (i : Int) (kd : IntKind) (xs : List Int) (hty : look U.und ty = some (.int kd)) (hx : ev t x = some (.pointer (elemAt A i 1))) (hD : D[k0]? = some f) (ht : Tells f A (nums kd xs))
    (hd : Nat.ble (d + 1) X.N = true) (hi : 0 ≤ i ∧ i < xs.length) (k : φ (put t d (.int kd (xs.getD i.toNat 0))) D) : Step X (some d) (.load ty x) t D φ :=
  Step.load hU k0 f A i 1 (nums kd xs) _ hx hD ht (by rw [nums_length]; omega) (by rw [Nat.mul_one]; exact loadv_num hty xs _ (by omega)) hd k
theorem Reads.load_num {Θ : List Fact} {d : Option Nat} {ty : TypeId} {x : Operand} (k0 : Nat) (f : Fact) (A : Option Addr) (i : Int) (kd : IntKind) (xs : List Int) (hty : look U.und ty = some (.int kd)) (hx : ev t x = some (.pointer (elemAt A i 1))) (hD : Θ[k0]? = some f) (ht : Tells f A (nums kd xs))
    (hi : 0 ≤ i ∧ i < xs.length) : Reads X Θ d (.load ty x) t (.int kd (xs.getD i.toNat 0)) :=
  Reads.load hU k0 f A i 1 (nums kd xs) _ hx hD ht (by rw [nums_length]; omega) (by rw [Nat.mul_one]; exact loadv_num hty xs _ (by omega))
theorem Step.store_num {ty : TypeId} {x y : Operand} (k0 T n cap : Nat) (A : Option Addr) (kd : IntKind) (xs : List Int) (i v : Int) (hx : ev t x = some (.pointer (elemAt A i 1))) (hy : ev t y = some (.int kd v)) (hD : D[k0]? = some (row T 1 (.slice A n cap) n (nums kd xs))) (hm : look U.sz ty = some 1)
    (hi : 0 ≤ i ∧ i < xs.length) (k : φ t (row T 1 (.slice A n cap) n (nums kd (xs.set i.toNat v)) :: D.eraseIdx k0)) : Step X none (.store ty x y) t D φ := by
  refine Step.store_row hU k0 T 1 n cap A (nums kd xs) i (.int kd v) hx hy hD 1 hm [.int kd v] rfl rfl rfl (by rw [nums_length]; omega) (by rw [nums_length]; omega) ?_
  rw [Nat.mul_one, nums_wr _ _ _ _ (by omega)]
  exact k
end

theorem vw_some {w0 : World} {W : FP} {D : List Fact} {w : World} (h : SAT w0 W D w) (k : Nat) {A : Option Addr} {cs : List Value} (hk : D[k]? = some (vw A cs)) {n : Nat} (hn : cs.length = n) : 0 < n → A.isSome = true := fun hp => by
  obtain ⟨fp, hP⟩ := h.get k hk
  obtain ⟨a, rfl, _⟩ := vw_cells hP (by omega)
  rfl
theorem part_some {A : Option Addr} (h : A.isSome = true) (l m s : Nat) : (subBase A l m s).isSome = true := by
  unfold subBase
  split
  · exact h
  · obtain ⟨a, rfl⟩ := Option.isSome_iff_exists.1 h; rfl
theorem tells_sub_nums {f : Fact} {A : Option Addr} {k : IntKind} {xs : List Int} (h : Tells f A (nums k xs)) (l m n : Nat) (hl : l + n ≤ xs.length) (hm : n ≠ 0 → m ≠ l) : Tells f (subBase A l m 1) (nums k ((xs.drop l).take n)) := by
  have hlen : ((xs.drop l).take n).length = n := by simp; omega
  refine tells_part h l m 1 _ ?_ (fun hne => hm (fun h0 => hne (by subst h0; simp [nums])))
  rw [Nat.mul_one, nums_length, hlen]
  simp [nums, List.map_take, List.map_drop]

theorem Frame.below {w w' : World} (h : Frame w (fun _ => False) w') : RowKit.Below w.heap.size w w' := ⟨h.os, h.tape, h.output, h.size, fun k hk => h.block k hk (fun h => h)⟩
theorem SAT.start (w : World) : SAT w (fun _ => False) [] w := ⟨Frame.refl _ _, fun _ => False, fun _ => False, trivial, fun _ h => h.elim, fun _ h => h.elim, fun _ h => h.elim id id |>.elim⟩
theorem SAT.arg {w : World} {D : List Fact} (h : SAT w (fun _ => False) D w) (A : Option Addr) (cs : List Value) (hc : 0 < cs.length → ∃ a, A = some a ∧ ∀ j v, cs[j]? = some v → w.cell? (a.add j) = some v) : SAT w (fun _ => False) (vw A cs :: D) w := by
  obtain ⟨fr, O, R, h1, h2, h3, h4⟩ := h
  have hO : ∀ b, ¬ O b := fun b hb => by
    rcases h3 b hb with h | h
    · have := h4 b (.inl hb); omega
    · exact h
  refine ⟨fr, O, fun b => b < w.heap.size, ⟨fun b => b < w.heap.size, ⟨fun _ h => h, fun hp => ?_⟩, fun _ h => h, sat_mono h1 (fun _ h => h) (fun b hb => h4 b (.inr hb))⟩, fun b hb => absurd hb (hO b), h3, fun b hb => hb.elim (fun h => absurd h (hO b)) id⟩
  obtain ⟨a, hA, hcell⟩ := hc hp
  refine ⟨a, hA, ?_, hcell⟩
  have := hcell 0 cs[0] (by simp)
  have := World.block_lt_of_cell? w _ this
  rwa [add_block] at this
theorem CallsS.law {P : Program} {f : FuncId} {args : List Value} {D : List Fact} (h : CallsS P f args D fun r D' => r = .bool true ∧ D' = []) {w : World} (hs : SAT w (fun _ => False) D w) :
    Calls P f args.toArray w fun e w' => e = .returned (.bool true) ∧ RowKit.Below w.heap.size w w' :=
  (h.2 w _ hs).mono fun _ _ ⟨r, D', h1, ⟨h2, _⟩, _, h4⟩ => ⟨by rw [h1, h2], h4.fr.below⟩
end Go.Proofs.Ytlibhidhfbecbaa.SL

/- Appending where the old row is used further; clearing; copying. -/
namespace Go.Proofs.Ytlibhidhfbecbaa.SL
set_option linter.unusedVariables false
set_option linter.unusedSimpArgs false
open Go
section
variable {X : Cx} {U : Tab} (hU : U.OK X.P) {t : Env} {D : List Fact} {φ : Env → List Fact → Prop}
include hU

omit hU in
theorem nums_wrs (k : IntKind) (xs : List Int) (i : Nat) (ys : List Int) : wr (nums k xs) i (nums k ys) = nums k (xs.take i ++ ys ++ xs.drop (i + ys.length)) := by
  simp [wr, nums, List.map_take, List.map_drop]

omit hU in
theorem row_write {w0 : World} {W : FP} {e n cap : Nat} {A : Option Addr} {kd : IntKind} {xs : List Int} {w : World} (h : SAT w0 W (row e 1 (.slice A n cap) n (nums kd xs) :: D) w) (hn : 0 < n) :
    ∃ b ex, A = some ⟨b, 0, none⟩ ∧ w.heap[b]? = some (.cells (nums kd xs ++ ex).toArray e (0, 0)) ∧ n = xs.length ∧
      ∀ (l : Nat) (ys : List Int), l + ys.length ≤ xs.length → SAT w0 W (row e 1 (.slice A n cap) n (nums kd (xs.take l ++ ys ++ xs.drop (l + ys.length))) :: D) (w.setRow b ((nums kd xs ++ ex).take l ++ nums kd ys ++ (nums kd xs ++ ex).drop (l + (nums kd ys).length)).toArray) := by
  have hlen := (row_len h).1
  rw [nums_length, Nat.mul_one] at hlen
  obtain ⟨b, cap', ex, hv, hnc, hcm, hex, hw2⟩ := row_open h hn
  injection hv with hA _ hcap
  subst hA; subst hcap
  obtain ⟨fp, hh, _⟩ := hw2.head
  refine ⟨b, ex, rfl, hh, hlen.symm, fun l ys hl => ?_⟩
  have h3 := sat_setRow (cs' := nums kd (xs.take l ++ ys ++ xs.drop (l + ys.length)) ++ ex) hw2
  have e1 : (nums kd xs ++ ex).take l ++ nums kd ys ++ (nums kd xs ++ ex).drop (l + (nums kd ys).length) = nums kd (xs.take l ++ ys ++ xs.drop (l + ys.length)) ++ ex := by
    rw [List.take_append_of_le_length (by rw [nums_length]; omega), List.drop_append_of_le_length (by rw [nums_length, nums_length]; omega), nums_length]
    simp [nums, List.map_take, List.map_drop]
  rw [e1]
  have hl2 : (nums kd (xs.take l ++ ys ++ xs.drop (l + ys.length))).length = n * 1 := by rw [nums_length]; simp; omega
  have h4 := SAT.row_of_blk (s := 1) h3 hnc hcm (by rw [List.length_append, hl2]; rw [List.length_append, nums_length] at hex; omega)
  rwa [← hl2, List.take_left] at h4

omit hU in
theorem zeroCells_num (k : IntKind) (n : Nat) : (Builtin.zeroCells (Value.int k 0).cells n).toList = nums k (List.replicate n 0) := by
  simp only [Builtin.zeroCells, nums]
  apply List.ext_getElem
  · simp [Value.cells]
  · intro i h1 h2
    simp [Nat.mod_one, Value.cells]

end
end Go.Proofs.Ytlibhidhfbecbaa.SL

/- Arrays of numbers: loaded and stored whole. -/
namespace Go.Proofs.Ytlibhidhfbecbaa.SL
set_option linter.unusedVariables false
set_option linter.unusedSimpArgs false
open Go
section
variable {X : Cx} {U : Tab} (hU : U.OK X.P) {t : Env} {D : List Fact} {φ : Env → List Fact → Prop}

include hU
end
end Go.Proofs.Ytlibhidhfbecbaa.SL

/- Blocks whose cells lie in segments: the fields of a struct. -/
namespace Go.Proofs.Ytlibhidhfbecbaa.SL
set_option linter.unusedVariables false
set_option linter.unusedSimpArgs false
open Go

def Seg (cs : List Value) (o : Nat) (q : List Value) : Prop := ∃ p r, cs = p ++ (q ++ r) ∧ p.length = o
theorem Seg.all (q : List Value) : Seg q 0 q := ⟨[], [], by simp, rfl⟩
theorem Seg.here (q r : List Value) : Seg (q ++ r) 0 q := ⟨[], r, rfl, rfl⟩
theorem Seg.skip {p cs q : List Value} {n o : Nat} (hp : p.length = n) (h : Seg cs o q) : Seg (p ++ cs) (n + o) q := by
  obtain ⟨a, r, rfl, h2⟩ := h
  exact ⟨p ++ a, r, by simp, by simp [hp, h2]⟩
theorem Seg.told {cs q : List Value} {o : Nat} (h : Seg cs o q) : q = (cs.drop o).take q.length := by
  obtain ⟨p, r, rfl, rfl⟩ := h
  simp
theorem Seg.one {cs : List Value} {v : Value} {o : Nat} (h : Seg cs o [v]) : cs[o]? = some v := by
  obtain ⟨p, r, rfl, rfl⟩ := h
  simp
theorem Seg.le {cs q : List Value} {o : Nat} (h : Seg cs o q) : o + q.length ≤ cs.length := by
  obtain ⟨p, r, rfl, rfl⟩ := h
  simp only [List.length_append]
  omega
theorem Seg.sub {cs q u : List Value} {o i : Nat} (h : Seg cs o q) (h2 : Seg q i u) : Seg cs (o + i) u := by
  obtain ⟨p, r, rfl, rfl⟩ := h
  obtain ⟨p2, r2, rfl, rfl⟩ := h2
  exact ⟨p ++ p2, r2 ++ r, by simp, by simp⟩
theorem tells_seg {b T o : Nat} {cs us : List Value} (h : Seg cs o us) : Tells (blk b T cs) (some ⟨b, o, none⟩) us := tells_blk b T o cs us h.told

def Put (cs : List Value) (o : Nat) (us cs' : List Value) : Prop := wr cs o us = cs' ∧ o + us.length ≤ cs.length
theorem Put.all {q us : List Value} (h : us.length = q.length) : Put q 0 us us := by
  refine ⟨?_, by omega⟩
  simp [wr, h]
theorem Put.here {q us : List Value} (r : List Value) (h : us.length = q.length) : Put (q ++ r) 0 us (us ++ r) := by
  refine ⟨?_, by simp; omega⟩
  simp [wr, h]
theorem Put.front {q us q' : List Value} {i : Nat} (r : List Value) (h : Put q i us q') : Put (q ++ r) i us (q' ++ r) := by
  obtain ⟨rfl, h2⟩ := h
  refine ⟨?_, by simp; omega⟩
  simp only [wr]
  rw [List.take_append_of_le_length (by omega), List.drop_append_of_le_length h2]
  simp
theorem Put.skip {p cs us cs' : List Value} {n o : Nat} (hp : p.length = n) (h : Put cs o us cs') : Put (p ++ cs) (n + o) us (p ++ cs') := by
  obtain ⟨rfl, h2⟩ := h
  subst hp
  refine ⟨?_, by simp; omega⟩
  simp only [wr]
  rw [List.take_append, List.take_of_length_le (by omega), show p.length + o - p.length = o by omega, List.drop_append, List.drop_of_length_le (by omega), show p.length + o + us.length - p.length = o + us.length by omega]
  simp
theorem Put.at {cs us cs' : List Value} {o p : Nat} (h : Put cs o us cs') (hp : p = o) : Put cs p us cs' := by subst hp; exact h

section
variable {X : Cx} {U : Tab} (hU : U.OK X.P) {t : Env} {D : List Fact} {φ : Env → List Fact → Prop}
theorem loadv_one {ty : TypeId} {cs : List Value} {o : Nat} {v : Value} (hty : isRowTy U ty = some false) (h : Seg cs o [v]) : loadv U ty cs o = some v := by
  unfold loadv
  rw [hty]
  exact h.one
include hU
theorem Step.store_seg {ty : TypeId} {x y : Operand} (k0 b o T : Nat) (cs cs' us : List Value) (v : Value) (hx : ev t x = some (.pointer (some ⟨b, o, none⟩))) (hy : ev t y = some v) (hD : D[k0]? = some (blk b T cs))
    (n : Nat) (hn : look U.sz ty = some n) (hus : v.cells.toList = us) (hl : us.length = n) (h1 : us.all (·.oneCell') = true) (hp : Put cs o us cs') (k : φ t (blk b T cs' :: D.eraseIdx k0)) : Step X none (.store ty x y) t D φ := by
  obtain ⟨rfl, h2⟩ := hp
  exact Step.store_blk hU k0 b o T cs v hx hy hD n hn us hus hl h1 (by omega) k
end
theorem all_one_nums (k : IntKind) (xs : List Int) : (nums k xs).all (·.oneCell') = true := List.all_eq_true.2 (fun u hu => nums_one k xs u hu)
theorem tells_take_nums {f : Fact} {A : Option Addr} {k : IntKind} {xs : List Int} (h : Tells f A (nums k xs)) (n : Nat) : Tells f A (nums k (xs.take n)) :=
  tells_take h _ (by
    simp only [nums, List.map_take, List.length_take, List.length_map]
    by_cases hn : n ≤ xs.length
    · rw [Nat.min_eq_left hn]
    · rw [Nat.min_eq_right (by omega), List.take_of_length_le (by simp; omega), List.take_of_length_le (by simp)])
end Go.Proofs.Ytlibhidhfbecbaa.SL

/- The builtin copy, into a block's segments and into rows. -/
namespace Go.Proofs.Ytlibhidhfbecbaa.SL
set_option linter.unusedVariables false
set_option linter.unusedSimpArgs false
open Go

def putl (xs : List Int) (i : Nat) (us : List Int) : List Int := xs.take i ++ us ++ xs.drop (i + us.length)
theorem putl_len {xs us : List Int} {i : Nat} (h : i + us.length ≤ xs.length) : (putl xs i us).length = xs.length := by simp [putl]; omega
theorem In.putl {k : IntKind} {xs us : List Int} {i : Nat} (hx : In k xs) (hu : In k us) : In k (putl xs i us) := ((hx.take _).append hu).append (hx.drop _)
theorem Put.nums {k : IntKind} {xs us : List Int} {i p : Nat} (h : i + us.length ≤ xs.length) (hp : p = i) : Put (nums k xs) p (nums k us) (nums k (putl xs i us)) := by
  subst hp
  refine ⟨nums_wrs _ _ _ _, by simp only [nums_length]; omega⟩
theorem sub_at {b o l m : Nat} (h : m ≠ l) : subBase (some ⟨b, o, none⟩) l m 1 = some ⟨b, o + l, none⟩ := by
  unfold subBase
  rw [if_neg h]
  simp only [Option.map_some, Addr.add, Nat.mul_one]
  split
  · rename_i h0; subst h0; rfl
  · rfl

section
variable {X : Cx} {U : Tab} (hU : U.OK X.P) {t : Env} {D : List Fact} {φ : Env → List Fact → Prop}
theorem Step.copy_run {d : Option Nat} {tx ty : TypeId} {x y : Operand} (e n : Nat) (dst src : Value) (D' : List Fact) (hx : ev t x = some dst) (hy : ev t y = some src)
    (hr : ∀ w0 W w o, SAT w0 W D w → ∃ w', (Builtin.copy_ #[tx, ty] o #[dst, src]).run X.P w = .ok (.int .i64 n) w' ∧ SAT w0 W D' w') (hd : (d.map fun d => Nat.ble (d + 1) X.N).getD true = true)
    (k : φ (putO t d (.int .i64 n)) D') : Step X d (.call { callee := .builtin .copy, args := #[x, y], argTypes := #[tx, ty] }) t D φ := by
  intro o hdst hop ρ a w ha hw Q K hK
  obtain ⟨w', hrun, hs⟩ := hr _ _ w o.type hw
  have hr : (execOp a.eval o).run X.P w = .ok (.value (.int .i64 n)) w' := by
    unfold execOp
    simp only [hop, resolve, invoke, builtin, Sem.run_bind, Sem.run_pure, Result.andThen_ok, List.map_toArray, List.map_cons, List.map_nil, ha.ev hx, ha.ev hy, hrun]
  refine wp_val hr (hK _ _ _ _ ?_ hs k)
  rw [hdst]
  exact ha.putO hd _

include hU
theorem info_one {e : TypeId} (h : look U.sz e = some 1) : (X.P.info? e).map (·.size) = some 1 := by
  obtain ⟨i, h1, h2⟩ := hU.sz _ (look_mem h)
  simp [h1, h2]

theorem Step.copy_row {d : Option Nat} {tx ty : TypeId} {x y : Operand} (e k0 k1 l n cap nd cd ns cs_ : Nat) (B Ad A : Option Addr) (xs : List Int) (f : Fact) (kd : IntKind) (ys : List Int)
    (hty : look U.und tx = some (.slice e)) (hsz : look U.sz e = some 1) (hx : ev t x = some (.slice Ad nd cd)) (hAd : 0 < nd → ∀ b, B = some ⟨b, 0, none⟩ → Ad = some ⟨b, l, none⟩) (hy : ev t y = some (.slice A ns cs_))
    (hD : D[k0]? = some (row e 1 (.slice B n cap) n (nums kd xs))) (hf : D[k1]? = some f) (hfu : Tells f A (nums kd ys)) (hns : ns = ys.length) (hl : l + nd ≤ n) (hd : (d.map fun d => Nat.ble (d + 1) X.N).getD true = true)
    (k : φ (putO t d (.int .i64 ((min ys.length nd : Nat) : Int))) (row e 1 (.slice B n cap) n (nums kd (putl xs l (ys.take nd))) :: D.eraseIdx k0)) : Step X d (.call { callee := .builtin .copy, args := #[x, y], argTypes := #[tx, ty] }) t D φ := by
  subst hns
  have hu := hU.und _ (look_mem hty)
  simp only at hu
  have hi := info_one hU (X := X) hsz
  refine Step.copy_run e (min ys.length nd) _ _ _ hx hy (fun w0 W w to hw => ?_) hd k
  have hw' := hw.pull hD
  by_cases h0 : min ys.length nd = 0
  · refine ⟨w, ?_, ?_⟩
    · rw [h0]; exact run_copy_none w tx ty to e Ad A nd cd ys.length cs_ hu hi h0
    · have e1 : ys.take nd = [] := List.eq_nil_of_length_eq_zero (by rw [List.length_take]; omega)
      rw [e1, putl]
      simpa using hw'
  · obtain ⟨b, ex, rfl, hh, hn, hset⟩ := row_write hw' (by omega)
    obtain rfl := hAd (by omega) b rfl
    obtain ⟨fpf, hfP⟩ := hw.get k1 hf
    obtain ⟨q, _, hv⟩ := hfu w fpf hfP
    obtain ⟨a, rfl, hc⟩ := vw_cells hv (by rw [nums_length]; omega)
    have hl1 : (nums kd (ys.take nd)).length = Nat.min ys.length nd := by rw [nums_length, List.length_take]; exact Nat.min_comm _ _
    have hl2 : (ys.take nd).length ≤ nd := by rw [List.length_take]; omega
    have hrun := run_copy_row X.P w tx ty to e b l nd cd a ys.length cs_ (nums kd xs ++ ex).toArray e (nums kd (ys.take nd)) hu hi hh hl1 (fun j v hj => hc j v (by
      have hlt := (List.getElem?_eq_some_iff.1 hj).1
      rw [nums_length, List.length_take] at hlt
      rw [nums, List.map_take, List.getElem?_take] at hj
      rw [if_pos (by omega)] at hj
      exact hj)) (by rw [nums_length]; simp [nums_length]; omega) (nums_one kd _)
    refine ⟨_, ?_, hset l (ys.take nd) (by omega)⟩
    have e2 : goInt ((nums kd (ys.take nd)).length : Int) = .int .i64 ((min ys.length nd : Nat) : Int) := by rw [hl1]; rfl
    rw [hrun]
    simp only [e2]
end
end Go.Proofs.Ytlibhidhfbecbaa.SL

/- A constant text's bytes: a row that was just laid is marked; it can still be read. -/
namespace Go.Proofs.Ytlibhidhfbecbaa.SL
set_option linter.unusedVariables false
set_option linter.unusedSimpArgs false
open Go

theorem SAT.thaw {w0 : World} {W : FP} {D : List Fact} {w w' : World} {f : Fact} (h : SAT w0 W (f :: D) w) (hf : f.own = true) (g : Fact) (hg : g.own = false)
    (hos : w'.os = w.os) (ht : w'.tape = w.tape) (hu : w'.output = w.output) (hsz : w'.heap.size = w.heap.size)
    (hP : ∀ fp, f.P w fp → (∀ b, ¬ fp b → w'.heap[b]? = w.heap[b]?) ∧ g.P w' fp) : SAT w0 W (g :: D) w' := by
  obtain ⟨fr, O, R, ⟨fp, hp, h1⟩, h2, h3, h4⟩ := h
  rw [hf] at h1
  obtain ⟨hb, hgP⟩ := hP fp hp
  refine ⟨⟨hos.trans fr.os, ht.trans fr.tape, hu.trans fr.output, by rw [hsz]; exact fr.size, fun b hlt hW => ?_⟩, fun b => O b ∧ ¬ fp b, fun b => R b ∨ fp b, ⟨fp, hgP, ?_⟩, ?_, fun b hb' => h3 b hb'.1, ?_⟩
  · refine (hb b (fun hfp => ?_)).trans (fr.block b hlt hW)
    rcases h3 b (h1.1 b hfp) with h | h
    · omega
    · exact hW h
  · rw [hg]
    refine ⟨fun b hb' => .inr hb', sat_mono (sat_loc h1.2 (fun b hb' => hb b (fun hfp => ?_))) (fun b hb' => hb') (fun b hb' => .inl hb')⟩
    rcases hb' with hb' | hb'
    · exact hb'.2 hfp
    · exact h2 b (h1.1 b hfp) hb'
  · rintro b ⟨ho, hn⟩ (hr | hr)
    · exact h2 b ho hr
    · exact hn hr
  · rintro b (hb' | hb' | hb')
    · rw [hsz]; exact h4 b (.inl hb'.1)
    · rw [hsz]; exact h4 b (.inr hb')
    · rw [hsz]; exact h4 b (.inl (h1.1 b hb'))

section
variable {X : Cx} {U : Tab} (hU : U.OK X.P) {t : Env} {D : List Fact} {φ : Env → List Fact → Prop}
include hU
theorem Step.mark_bytes {d : Nat} {ty : TypeId} {x : Operand} (e k0 n cap : Nat) (b : Nat) (xs : List Int) (hty : look U.und ty = some (.slice e)) (he : look U.und e = some (.int .u8)) (hx : ev t x = some (.slice (some ⟨b, 0, none⟩) n cap))
    (hD : D[k0]? = some (row e 1 (.slice (some ⟨b, 0, none⟩) n cap) n (nums .u8 xs))) (hn : 0 < n) (hd : Nat.ble (d + 1) X.N = true)
    (k : φ (put t d (.slice (some ⟨b, 0, none⟩) n cap)) (vw (some ⟨b, 0, none⟩) (nums .u8 xs) :: D.eraseIdx k0)) : Step X (some d) (.convert ty ty x) t D φ := by
  intro o hdst hop ρ a w ha hw Q K hK
  have hw' := hw.pull hD
  obtain ⟨b', cap', ex, hv, hnc, hcm, hex, hw2⟩ := row_open hw' hn
  injection hv with hA _ hcap
  cases hA
  subst hcap
  obtain ⟨fp, hh, hfp⟩ := hw2.head
  have hlt : b < w.heap.size := (Array.getElem?_eq_some_iff.1 hh).1
  have hsh : w.shape? b = some (e, (nums .u8 xs ++ ex).toArray.size) := by
    unfold World.shape?
    rw [hh]
  have hnew : (w.freeze ⟨b, (nums .u8 xs ++ ex).toArray.size, none⟩ 1).heap[b]? = some (.cells (nums .u8 xs ++ ex).toArray e ((nums .u8 xs ++ ex).toArray.size, (nums .u8 xs ++ ex).toArray.size + 1)) := by
    unfold World.freeze
    rw [if_neg (by decide)]
    simp only [Array.getElem?_modify, if_true, hh, Option.map_some]
    rfl
  have hold : ∀ c, c ≠ b → (w.freeze ⟨b, (nums .u8 xs ++ ex).toArray.size, none⟩ 1).heap[c]? = w.heap[c]? := fun c hc => by
    unfold World.freeze
    rw [if_neg (by decide)]
    simp only [Array.getElem?_modify, if_neg (Ne.symm hc)]
  have hsz : (w.freeze ⟨b, (nums .u8 xs ++ ex).toArray.size, none⟩ 1).heap.size = w.heap.size := by
    unfold World.freeze
    rw [if_neg (by decide)]
    simp
  have hr : (execOp a.eval o).run X.P w = .ok (.value (.slice (some ⟨b, 0, none⟩) n cap)) (w.freeze ⟨b, (nums .u8 xs ++ ex).toArray.size, none⟩ 1) := by
    unfold execOp
    simp only [hop, ha.ev hx]
    simp [convert, hU.run_und hty, hU.run_und he, markStringish, hsh]
  have hs : SAT ρ.w0 ρ.W (vw (some ⟨b, 0, none⟩) (nums .u8 xs) :: D.eraseIdx k0) (w.freeze ⟨b, (nums .u8 xs ++ ex).toArray.size, none⟩ 1) := by
    refine hw2.thaw rfl _ rfl (by unfold World.freeze; rw [if_neg (by decide)]) (by unfold World.freeze; rw [if_neg (by decide)]) (by unfold World.freeze; rw [if_neg (by decide)]) hsz (fun fp hp => ⟨fun c hc => hold c (fun e => hc ((hp.2 c).2 e)), ⟨fun x hx => ?_, fun _ => ⟨_, rfl, (hp.2 b).2 rfl, fun j v hj => ?_⟩⟩⟩)
    · rw [(hp.2 x).1 hx, hsz]; exact hlt
    · rw [Addr.add_mid, Nat.zero_add]
      have hj2 : (nums .u8 xs ++ ex)[j]? = some v := by rw [List.getElem?_append_left (List.getElem?_eq_some_iff.1 hj).1]; exact hj
      simp only [World.cell?, hnew]
      simpa using hj2
  refine wp_val hr (hK _ _ _ _ ?_ hs k)
  rw [hdst]
  exact ha.put (Nat.le_of_ble_eq_true hd) _
end
end Go.Proofs.Ytlibhidhfbecbaa.SL
