import Derived.Test.YtlibhidhfbecbaaSLzn
import Derived.MapKept
import Derived.Maps.RangeRun
import Derived.RangeFuncRecord
import Derived.RangeFuncLeaves
import Derived.RangeFuncSeq
import Derived.Shelf.Sort.Plain
import Derived.Shelf.Slices.In.SortNone
import Derived.Shelf.SlMaps.Clone
import Derived.Lib.BufferWrite
/- Maps by texts, owned: made, looked up, written, their entries taken away, gone through. -/
namespace Go.Proofs.Ytlibhidhfbecbaa.SL
set_option linter.unusedVariables false
set_option linter.unusedSimpArgs false
open Go
open Go.ChangeMaps (setBlock)

abbrev Me := ByteArray × Value × Nat
def meE (e : Me) : MapEntry := { key := .string e.1, val := e.2.1, born := e.2.2 }
def mpf (b : Nat) (L : List Me) (c : Nat) : Fact where
  own := true
  P w fp := w.heap[b]? = some (.map (L.map meE).toArray c) ∧ ∀ x, fp x ↔ x = b
  loc h hl := ⟨(hl b ((h.2 b).2 rfl)).trans h.1, h.2⟩
  bnd h x hx := by have := (h.2 x).1 hx; subst this; exact (Array.getElem?_eq_some_iff.1 h.1).1
def itf (i m since : Nat) (seen : List Nat) (last : Nat) : Fact where
  own := true
  P w fp := w.heap[i]? = some (.mapIter (some m) since seen.toArray last) ∧ ∀ x, fp x ↔ x = i
  loc h hl := ⟨(hl i ((h.2 i).2 rfl)).trans h.1, h.2⟩
  bnd h x hx := by have := (h.2 x).1 hx; subst this; exact (Array.getElem?_eq_some_iff.1 h.1).1
def mfind (k : ByteArray) : List Me → Nat → Option (Nat × Value)
  | [], _ => none
  | e :: es, i => if k = e.1 then some (i, e.2.1) else mfind k es (i + 1)
def mget (L : List Me) (k : ByteArray) : Option Value := (mfind k L 0).map (·.2)
def mput (L : List Me) (c : Nat) (k : ByteArray) (v : Value) : List Me := match mfind k L 0 with
  | some (i, _) => L.modify i fun e => (e.1, v, e.2.2)
  | none => L ++ [(k, v, c)]
def mclock (L : List Me) (c : Nat) (k : ByteArray) : Nat := if (mget L k).isSome then c else c + 1
def mdel (L : List Me) (k : ByteArray) : List Me := match mfind k L 0 with
  | some (i, _) => L.eraseIdx i
  | none => L
theorem findNow_str (k : ByteArray) : ∀ (L : List Me) (i : Nat), Instr.findNow .string (.string k) (L.map meE) i = some (mfind k L i)
  | [], _ => rfl
  | e :: es, i => by
    rw [List.map_cons, Instr.findNow, mfind, findNow_str k es (i + 1)]
    by_cases h : k = e.1
    · rw [if_pos h]; subst h; simp only [Instr.sameNow, meE, (MapKept.bytes_beq e.1 e.1).2 rfl]
    · have h2 : (k == e.1) = false := Bool.eq_false_iff.2 (fun g => h ((MapKept.bytes_beq _ _).1 g))
      rw [if_neg h]; simp only [Instr.sameNow, meE, h2]
theorem mfind_at {k : ByteArray} : ∀ {L : List Me} {i j : Nat} {v : Value}, mfind k L i = some (j, v) → ∃ e, i ≤ j ∧ L[j - i]? = some e ∧ e.1 = k ∧ e.2.1 = v
  | [], i, j, v, h => by cases h
  | e :: es, i, j, v, h => by
    rw [mfind] at h
    by_cases hk : k = e.1
    · rw [if_pos hk] at h; cases h; exact ⟨e, Nat.le_refl _, by simp, hk.symm, rfl⟩
    · rw [if_neg hk] at h
      obtain ⟨e', h1, h2, h3⟩ := mfind_at h
      exact ⟨e', by omega, by rw [show j - i = (j - (i + 1)) + 1 by omega, List.getElem?_cons_succ]; exact h2, h3⟩
theorem mfind_none {k : ByteArray} : ∀ {L : List Me} {i : Nat}, mfind k L i = none → ∀ e ∈ L, e.1 ≠ k
  | [], _, _, e, he => by cases he
  | e :: es, i, h, e', he => by
    rw [mfind] at h
    by_cases hk : k = e.1
    · rw [if_pos hk] at h; cases h
    · rw [if_neg hk] at h
      rcases List.mem_cons.1 he with rfl | he
      · exact fun g => hk g.symm
      · exact mfind_none h e' he
theorem mfind_no {k : ByteArray} : ∀ {L : List Me} {i : Nat}, (∀ e ∈ L, e.1 ≠ k) → mfind k L i = none
  | [], _, _ => rfl
  | e :: es, i, h => by
    rw [mfind, if_neg (fun g => h e List.mem_cons_self g.symm)]
    exact mfind_no (fun e' he => h e' (List.mem_cons_of_mem _ he))
theorem mfind_shift (k : ByteArray) : ∀ (L : List Me) (i : Nat), mfind k L i = (mfind k L 0).map fun p => (p.1 + i, p.2)
  | [], _ => rfl
  | e :: es, i => by
    rw [mfind, mfind]
    by_cases hk : k = e.1
    · rw [if_pos hk, if_pos hk]; simp
    · rw [if_neg hk, if_neg hk, mfind_shift k es (i + 1), mfind_shift k es (0 + 1)]
      cases mfind k es 0 with
      | none => rfl
      | some p => simp only [Option.map_some]; congr 2; omega
theorem mget_nil (k : ByteArray) : mget [] k = none := rfl
theorem mget_cons (e : Me) (L : List Me) (k : ByteArray) : mget (e :: L) k = if k = e.1 then some e.2.1 else mget L k := by
  unfold mget
  rw [mfind]
  split
  · rfl
  · rw [mfind_shift]; cases mfind k L 0 <;> rfl
theorem mget_append (L M : List Me) (k : ByteArray) : mget (L ++ M) k = (mget L k).or (mget M k) := by
  induction L with
  | nil => rw [List.nil_append, mget_nil]; rfl
  | cons e L ih =>
    rw [List.cons_append, mget_cons, mget_cons, ih]
    split <;> rfl
theorem mget_mem {L : List Me} {k : ByteArray} {v : Value} (h : mget L k = some v) : ∃ e ∈ L, e.1 = k ∧ e.2.1 = v := by
  unfold mget at h
  cases hf : mfind k L 0 with
  | none => rw [hf] at h; cases h
  | some p =>
    rw [hf] at h; cases h
    obtain ⟨e, _, h2, h3⟩ := mfind_at (i := 0) (j := p.1) (v := p.2) hf
    exact ⟨e, List.mem_of_getElem? h2, h3⟩
theorem mget_none {L : List Me} {k : ByteArray} (h : mget L k = none) : ∀ e ∈ L, e.1 ≠ k := by
  unfold mget at h
  cases hf : mfind k L 0 with
  | none => exact mfind_none hf
  | some p => rw [hf] at h; cases h
theorem mput_new {L : List Me} {c : Nat} {k : ByteArray} {v : Value} (h : mget L k = none) : mput L c k v = L ++ [(k, v, c)] := by
  unfold mput
  rw [mfind_no (mget_none h)]
theorem mput_old {L : List Me} {c : Nat} {k : ByteArray} {v : Value} (hn : (L.map (·.1)).Nodup) (h : (mget L k).isSome = true) : mput L c k v = L.map fun e => if e.1 = k then (e.1, v, e.2.2) else e := by
  unfold mput
  unfold mget at h
  cases hf : mfind k L 0 with
  | none => rw [hf] at h; cases h
  | some p =>
    obtain ⟨e, _, h2, h3, _⟩ := mfind_at (i := 0) (j := p.1) (v := p.2) hf
    rw [Nat.sub_zero] at h2
    show L.modify p.1 _ = _
    clear hf h
    generalize p.1 = i at h2
    induction L generalizing i with
    | nil => simp at h2
    | cons x L ih =>
      rw [List.map_cons, List.nodup_cons] at hn
      cases i with
      | zero =>
        simp only [List.getElem?_cons_zero, Option.some.injEq] at h2
        subst h2
        rw [List.modify_zero_cons, List.map_cons, if_pos h3]
        congr 1
        refine (List.map_id' L).symm.trans (List.map_congr_left fun y hy => ?_)
        rw [if_neg]
        intro g
        exact hn.1 (h3.symm ▸ g ▸ List.mem_map.2 ⟨y, hy, rfl⟩)
      | succ i =>
        rw [List.getElem?_cons_succ] at h2
        rw [List.modify_succ_cons, List.map_cons, ih hn.2 i h2, if_neg]
        intro g
        exact hn.1 ((g.trans h3.symm) ▸ List.mem_map.2 ⟨e, List.mem_of_getElem? h2, rfl⟩)
theorem mput_get {L : List Me} {c : Nat} {k : ByteArray} {v : Value} (hn : (L.map (·.1)).Nodup) (k' : ByteArray) : mget (mput L c k v) k' = if k' = k then some v else mget L k' := by
  cases h : mget L k with
  | none =>
    rw [mput_new h, mget_append, mget_cons, mget_nil]
    by_cases hk : k' = k
    · subst hk; rw [h]; simp
    · rw [if_neg hk]; simp [hk]
  | some u =>
    rw [mput_old hn (by rw [h]; rfl)]
    have h1 : ∃ e ∈ L, e.1 = k := by obtain ⟨e, he, hk, _⟩ := mget_mem h; exact ⟨e, he, hk⟩
    clear h
    induction L with
    | nil => obtain ⟨e, he, _⟩ := h1; cases he
    | cons x L ih =>
      rw [List.map_cons, mget_cons, mget_cons]
      rw [List.map_cons, List.nodup_cons] at hn
      by_cases hx : x.1 = k
      · rw [if_pos hx]
        by_cases hk : k' = k
        · rw [if_pos hk, if_pos (show k' = x.1 by rw [hk, hx])]
        · rw [if_neg hk, if_neg (show ¬ k' = x.1 by rw [hx]; exact hk), if_neg (show ¬ k' = x.1 by rw [hx]; exact hk)]
          congr 1
          refine (List.map_congr_left fun y hy => ?_).trans (List.map_id' L)
          rw [if_neg]
          intro g
          exact hn.1 (hx.symm ▸ g ▸ List.mem_map.2 ⟨y, hy, rfl⟩)
      · rw [if_neg hx]
        have h2 : ∃ e ∈ L, e.1 = k := by
          obtain ⟨e, he, hk⟩ := h1
          rcases List.mem_cons.1 he with rfl | he
          · exact absurd hk hx
          · exact ⟨e, he, hk⟩
        rw [ih hn.2 h2]
        by_cases hk : k' = k
        · have h5 : ¬ k' = x.1 := fun g => hx (g.symm.trans hk)
          rw [if_neg h5, if_pos hk, if_pos hk]
        · rw [if_neg hk, if_neg hk]
theorem mput_keys {L : List Me} {c : Nat} {k : ByteArray} {v : Value} (hn : (L.map (·.1)).Nodup) : ((mput L c k v).map (·.1)).Nodup := by
  cases h : mget L k with
  | none =>
    rw [mput_new h, List.map_append, List.nodup_append]
    refine ⟨hn, by simp, fun a ha b hb => ?_⟩
    simp only [List.map_cons, List.map_nil, List.mem_singleton] at hb
    subst hb
    obtain ⟨e, he, rfl⟩ := List.mem_map.1 ha
    exact mget_none h e he
  | some u =>
    rw [mput_old hn (by rw [h]; rfl), List.map_map]
    have : (fun e : Me => e.1) ∘ (fun e : Me => if e.1 = k then (e.1, v, e.2.2) else e) = fun e => e.1 := by
      funext e
      simp only [Function.comp]
      split <;> rfl
    rw [this]
    exact hn
structure MOK (L : List Me) (c : Nat) : Prop where
  keys : (L.map (·.1)).Nodup
  born : (L.map (·.2.2)).Nodup
  old : ∀ e ∈ L, e.2.2 < c
theorem MOK.nil : MOK [] 0 := ⟨List.nodup_nil, List.nodup_nil, fun _ h => by cases h⟩
theorem MOK.put {L : List Me} {c : Nat} (h : MOK L c) (k : ByteArray) (v : Value) : MOK (mput L c k v) (mclock L c k) := by
  refine ⟨mput_keys h.keys, ?_, ?_⟩
  · cases hg : mget L k with
    | none =>
      rw [mput_new hg, List.map_append, List.nodup_append]
      refine ⟨h.born, by simp, fun a ha b hb => ?_⟩
      simp only [List.map_cons, List.map_nil, List.mem_singleton] at hb
      subst hb
      obtain ⟨e, he, rfl⟩ := List.mem_map.1 ha
      have := h.old e he
      omega
    | some u =>
      rw [mput_old h.keys (by rw [hg]; rfl), List.map_map]
      have : (fun e : Me => e.2.2) ∘ (fun e : Me => if e.1 = k then (e.1, v, e.2.2) else e) = fun e => e.2.2 := by
        funext e
        simp only [Function.comp]
        split <;> rfl
      rw [this]
      exact h.born
  · unfold mclock
    cases hg : mget L k with
    | none =>
      intro e he
      rw [mput_new hg] at he
      rcases List.mem_append.1 he with he | he
      · have := h.old e he; simp; omega
      · rw [List.mem_singleton] at he; subst he; simp
    | some u =>
      intro e he
      rw [mput_old h.keys (by rw [hg]; rfl)] at he
      obtain ⟨x, hx, rfl⟩ := List.mem_map.1 he
      have := h.old x hx
      simp only [Option.isSome_some, if_true]
      split <;> exact this
theorem mdel_is {L : List Me} (hn : (L.map (·.1)).Nodup) (k : ByteArray) : mdel L k = L.filter fun e => decide (e.1 ≠ k) := by
  unfold mdel
  cases hf : mfind k L 0 with
  | none => exact (List.filter_eq_self.2 (fun e he => by simpa using mfind_none hf e he)).symm
  | some p =>
    obtain ⟨e, _, h2, h3, _⟩ := mfind_at (i := 0) (j := p.1) (v := p.2) hf
    rw [Nat.sub_zero] at h2
    show L.eraseIdx p.1 = _
    clear hf
    generalize p.1 = i at h2
    induction L generalizing i with
    | nil => rfl
    | cons x L ih =>
      rw [List.map_cons, List.nodup_cons] at hn
      cases i with
      | zero =>
        simp only [List.getElem?_cons_zero, Option.some.injEq] at h2
        subst h2
        rw [List.eraseIdx_cons_zero, List.filter_cons_of_neg (by simp [h3])]
        refine (List.filter_eq_self.2 (fun y hy => ?_)).symm
        simp only [decide_eq_true_eq]
        intro g
        exact hn.1 (h3.symm ▸ g ▸ List.mem_map.2 ⟨y, hy, rfl⟩)
      | succ i =>
        rw [List.getElem?_cons_succ] at h2
        rw [List.eraseIdx_cons_succ, List.filter_cons_of_pos, ih hn.2 i h2]
        simp only [decide_eq_true_eq]
        intro g
        exact hn.1 ((g.trans h3.symm) ▸ List.mem_map.2 ⟨e, List.mem_of_getElem? h2, rfl⟩)
theorem MOK.del {L : List Me} {c : Nat} (h : MOK L c) (k : ByteArray) : MOK (mdel L k) c := by
  rw [mdel_is h.keys]
  exact ⟨(List.filter_sublist.map _).nodup h.keys, (List.filter_sublist.map _).nodup h.born, fun e he => h.old e (List.mem_filter.1 he).1⟩
section
variable {X : Cx} {U : Tab} (hU : U.OK X.P) {t : Env} {D : List Fact} {φ : Env → List Fact → Prop}
theorem Step.newMap {d : Nat} {ty : TypeId} (hd : Nat.ble (d + 1) X.N = true) (k : ∀ m, φ (put t d (.map (some m))) (mpf m [] 0 :: D)) : Step X (some d) (.makeMap ty none) t D φ := by
  intro o hdst hop ρ a w ha hw Q K hK
  have hr : (execOp a.eval o).run X.P w = .ok (.value (.map (some w.heap.size))) (w.alloc (.map #[] 0)) := by
    unfold execOp
    rw [hop]
    rfl
  have hs := hw.alloc (.map #[] 0) (mpf w.heap.size [] 0) rfl ⟨heap_alloc_new w _, fun x => Iff.rfl⟩
  refine wp_val hr (hK _ _ _ _ ?_ hs (k w.heap.size))
  rw [hdst]
  exact ha.put (Nat.le_of_ble_eq_true hd) _
include hU
theorem run_lookup_str {w : World} {xT kt et : TypeId} {b c n by_ : Nat} {z : Value} {L : List Me} {s : ByteArray} (hty : look U.und xT = some (.map kt et)) (hkt : look U.und kt = some .string) (hti : look U.ti et = some (n, by_, z)) (hb : w.heap[b]? = some (.map (L.map meE).toArray c)) (ok : Bool) :
    (Instr.lookup xT (.map (some b)) (.string s) ok).run X.P w = .ok (if ok then .tuple #[(mget L s).getD z, .bool (mget L s).isSome] else (mget L s).getD z) w := by
  obtain ⟨i, hi, h1, h2, h3⟩ := hU.ti _ (look_mem hti)
  simp only at hi h1 h2 h3
  have hk := hU.und _ (look_mem hkt)
  simp only at hk
  have h4 : (Instr.checkKey (L.map meE).toArray.isEmpty 10000 kt (.string s)).run X.P w = .ok () w := MapKept.run_checkKey hk (by trivial) _ 9999
  have h5 : (Instr.findKey kt (.string s) (L.map meE)).run X.P w = .ok (mfind s L 0) w := MapKept.run_findKey hk (findNow_str s L 0)
  unfold Instr.lookup
  simp only [Sem.run_bind, hU.run_und hty, Result.andThen_ok, MapKept.run_getObj_map hb, Sem.run_pure, h4, h5, mget]
  cases hf : mfind s L 0 with
  | none =>
    simp [zeroValue, typeInfo, hi, h3]
  | some p => simp
theorem Step.lookup {d : Nat} {xT : TypeId} {x y : Operand} {ok : Bool} (k0 : Nat) (kt et b c n by_ : Nat) (z : Value) (L : List Me) (s : ByteArray) (hty : look U.und xT = some (.map kt et)) (hkt : look U.und kt = some .string) (hti : look U.ti et = some (n, by_, z))
    (hx : ev t x = some (.map (some b))) (hy : ev t y = some (.string s)) (hD : D[k0]? = some (mpf b L c)) (hd : Nat.ble (d + 1) X.N = true)
    (k : φ (put t d (if ok then .tuple #[(mget L s).getD z, .bool (mget L s).isSome] else (mget L s).getD z)) D) : Step X (some d) (.lookup xT x y ok) t D φ := by
  intro o hdst hop ρ a w ha hw Q K hK
  obtain ⟨fp, hb, _⟩ := hw.get k0 hD
  have hr : (execOp a.eval o).run X.P w = .ok (.value (if ok then .tuple #[(mget L s).getD z, .bool (mget L s).isSome] else (mget L s).getD z)) w := by
    unfold execOp
    simp only [hop, ha.ev hx, ha.ev hy, Sem.run_bind, run_lookup_str hU hty hkt hti hb, Result.andThen_ok, Sem.run_pure]
  refine wp_val hr (hK _ _ _ _ ?_ hw k)
  rw [hdst]
  exact ha.put (Nat.le_of_ble_eq_true hd) _
theorem run_mapUpdate_str {w : World} {xT kt et : TypeId} {b c : Nat} {L : List Me} {s : ByteArray} {v : Value} (hty : look U.und xT = some (.map kt et)) (hkt : look U.und kt = some .string) (hb : w.heap[b]? = some (.map (L.map meE).toArray c)) :
    (Instr.mapUpdate xT (.map (some b)) (.string s) v).run X.P w = .ok () { w with heap := w.heap.setIfInBounds b (.map ((mput L c s v).map meE).toArray (mclock L c s)) } := by
  have hk := hU.und _ (look_mem hkt)
  simp only at hk
  have h4 : (Instr.checkKey false 10000 kt (.string s)).run X.P w = .ok () w := MapKept.run_checkKey hk (by trivial) _ 9999
  have h5 : (Instr.findKey kt (.string s) (L.map meE)).run X.P w = .ok (mfind s L 0) w := MapKept.run_findKey hk (findNow_str s L 0)
  unfold Instr.mapUpdate
  simp only [Sem.run_bind, hU.run_und hty, Result.andThen_ok, MapKept.run_getObj_map hb, h4, h5]
  cases hf : mfind s L 0 with
  | none =>
    have hc : mclock L c s = c + 1 := by unfold mclock mget; rw [hf]; rfl
    have hp : mput L c s v = L ++ [(s, v, c)] := by unfold mput; rw [hf]
    rw [hc, hp]
    simp only [MapKept.run_setObj_map _ hb, List.map_append, List.push_toArray]
    rfl
  | some p =>
    have hc : mclock L c s = c := by unfold mclock mget; rw [hf]; rfl
    have hp : mput L c s v = L.modify p.1 fun e => (e.1, v, e.2.2) := by unfold mput; rw [hf]
    obtain ⟨e, _, h2, h3, _⟩ := mfind_at (i := 0) (j := p.1) (v := p.2) hf
    rw [Nat.sub_zero] at h2
    have hkey : ((((L.map meE).toArray)[p.1]?).map (·.key)).getD (.string s) = .string s := by
      simp [h2, meE, h3]
    have hst : (Instr.keyThatStays (.string s) (.string s)).run X.P w = .ok (.string s) w := by
      unfold Instr.keyThatStays
      rw [if_pos (by show (s == s) = true; exact (MapKept.bytes_beq s s).2 rfl)]
      rfl
    rw [hc, hp]
    simp only [hkey, Sem.run_bind, hst, Result.andThen_ok, MapKept.run_setObj_map _ hb]
    have he : ((L.map meE).toArray.modify p.1 fun e => { e with key := .string s, val := v }) = ((L.modify p.1 fun e => (e.1, v, e.2.2)).map meE).toArray := by
      rw [List.modify_toArray]
      congr 1
      apply List.ext_getElem?
      intro j
      simp only [List.getElem?_modify, List.getElem?_map]
      by_cases hj : p.1 = j
      · subst hj
        simp [h2, meE, h3]
      · simp [hj]
    rw [he]
omit hU in
theorem SAT.mapSet {w0 : World} {W : FP} {D : List Fact} {w : World} {b c c' : Nat} {L L' : List Me} (h : SAT w0 W (mpf b L c :: D) w) : SAT w0 W (mpf b L' c' :: D) { w with heap := w.heap.setIfInBounds b (.map (L'.map meE).toArray c') } := by
  refine h.change rfl (mpf b L' c') rfl rfl rfl rfl (by simp) fun fp hp => ⟨fun x hx => ?_, ?_, hp.2⟩
  · have : b ≠ x := fun e => hx ((hp.2 x).2 e.symm)
    simp [Array.getElem?_setIfInBounds, this]
  · have hlt := (Array.getElem?_eq_some_iff.1 hp.1).1
    simp [Array.getElem?_setIfInBounds, hlt]
theorem Step.mapUpdate {xT : TypeId} {x y z : Operand} (ins : Bool) (k0 : Nat) (kt et b c : Nat) (L : List Me) (s : ByteArray) (v : Value) (hty : look U.und xT = some (.map kt et)) (hkt : look U.und kt = some .string)
    (hx : ev t x = some (.map (some b))) (hy : ev t y = some (.string s)) (hz : ev t z = some v) (hD : D[k0]? = some (mpf b L c))
    (k : φ t (mpf b (mput L c s v) (mclock L c s) :: D.eraseIdx k0)) : Step X none (if ins then .insert xT x y z else .mapUpdate xT x y z) t D φ := by
  intro o hdst hop ρ a w ha hw Q K hK
  have hw' := hw.pull hD
  obtain ⟨fp, hb, _⟩ := hw'.head
  have hr : (execOp a.eval o).run X.P w = .ok .skip { w with heap := w.heap.setIfInBounds b (.map ((mput L c s v).map meE).toArray (mclock L c s)) } := by
    unfold execOp
    cases ins <;> simp only [Bool.false_eq_true, if_false, if_true] at hop <;> simp only [hop, ha.ev hx, ha.ev hy, ha.ev hz, Sem.run_bind, run_mapUpdate_str hU hty hkt hb, Result.andThen_ok, Sem.run_pure]
  refine wp_unit hr (hK _ _ _ _ ?_ hw'.mapSet k)
  rw [hdst]
  exact ha
theorem Step.mapDelete {d : Option Nat} {xT kt' : TypeId} {x y : Operand} (k0 : Nat) (kt et b c : Nat) (L : List Me) (s : ByteArray) (hty : look U.und xT = some (.map kt et)) (hkt : look U.und kt = some .string)
    (hx : ev t x = some (.map (some b))) (hy : ev t y = some (.string s)) (hD : D[k0]? = some (mpf b L c)) (hd : (d.map fun d => Nat.ble (d + 1) X.N).getD true = true)
    (k : φ (putO t d (.tuple #[])) (mpf b (mdel L s) c :: D.eraseIdx k0)) : Step X d (.call { callee := .builtin .delete, args := #[x, y], argTypes := #[xT, kt'] }) t D φ := by
  intro o hdst hop ρ a w ha hw Q K hK
  have hw' := hw.pull hD
  obtain ⟨fp, hb, _⟩ := hw'.head
  have hk := hU.und _ (look_mem hkt)
  simp only at hk
  have h4 : (Instr.checkKey (L.map meE).toArray.isEmpty 10000 kt (.string s)).run X.P w = .ok () w := MapKept.run_checkKey hk (by trivial) _ 9999
  have h5 : (Instr.findKey kt (.string s) (L.map meE)).run X.P w = .ok (mfind s L 0) w := MapKept.run_findKey hk (findNow_str s L 0)
  have hr : (execOp a.eval o).run X.P w = .ok (.value (.tuple #[])) { w with heap := w.heap.setIfInBounds b (.map ((mdel L s).map meE).toArray c) } := by
    unfold execOp
    simp only [hop, resolve, Sem.run_bind, Sem.run_pure, Result.andThen_ok, Go.invoke, builtin, Builtin.delete_, List.map_toArray, List.map_cons, List.map_nil, ha.ev hx, ha.ev hy, List.getElem?_toArray, List.getElem?_cons_zero, List.getElem?_cons_succ, hU.run_und hty, MapKept.run_getObj_map hb, h4, h5]
    cases hf : mfind s L 0 with
    | none =>
      have hp : mdel L s = L := by unfold mdel; rw [hf]
      rw [hp]
      simp only [MapKept.run_setObj_map _ hb, Result.andThen_ok, Sem.run_pure, Sem.run_bind]
    | some p =>
      have hp : mdel L s = L.eraseIdx p.1 := by unfold mdel; rw [hf]
      obtain ⟨e, _, h2, _, _⟩ := mfind_at (i := 0) (j := p.1) (v := p.2) hf
      rw [Nat.sub_zero] at h2
      have hlt := (List.getElem?_eq_some_iff.1 h2).1
      rw [hp]
      have he : (L.map meE).toArray.eraseIdxIfInBounds p.1 = ((L.eraseIdx p.1).map meE).toArray := by
        simp only [Array.eraseIdxIfInBounds, List.size_toArray, List.length_map, hlt, dite_true, List.eraseIdx_toArray]; congr 1; apply List.ext_getElem?; intro j; simp only [List.getElem?_eraseIdx, List.getElem?_map]; split <;> rfl
      simp only [MapKept.run_setObj_map _ hb, Result.andThen_ok, Sem.run_pure, Sem.run_bind, he]
  refine wp_val hr (hK _ _ _ _ ?_ hw'.mapSet k)
  rw [hdst]
  exact ha.putO hd _
theorem Step.mapLen {d : Nat} {xT : TypeId} {x : Operand} (k0 : Nat) (kt et b c : Nat) (L : List Me) (hty : look U.und xT = some (.map kt et)) (hx : ev t x = some (.map (some b))) (hD : D[k0]? = some (mpf b L c)) (hd : Nat.ble (d + 1) X.N = true)
    (k : φ (put t d (.int .i64 (L.length : Int))) D) : Step X (some d) (.call { callee := .builtin .len, args := #[x], argTypes := #[xT] }) t D φ := by
  intro o hdst hop ρ a w ha hw Q K hK
  obtain ⟨fp, hb, _⟩ := hw.get k0 hD
  have hr : (execOp a.eval o).run X.P w = .ok (.value (.int .i64 (L.length : Int))) w := by
    unfold execOp
    simp only [hop, resolve, Sem.run_bind, Sem.run_pure, Result.andThen_ok, Go.invoke, builtin, Builtin.len_, List.map_toArray, List.map_cons, List.map_nil, ha.ev hx, List.getElem?_toArray, List.getElem?_cons_zero, hU.run_und hty, MapKept.run_getObj_map hb]
    simp [goInt]
  refine wp_val hr (hK _ _ _ _ ?_ hw k)
  rw [hdst]
  exact ha.put (Nat.le_of_ble_eq_true hd) _
theorem Step.range {d : Nat} {xT : TypeId} {x : Operand} (k0 : Nat) (kt et b c : Nat) (L : List Me) (hty : look U.und xT = some (.map kt et)) (hx : ev t x = some (.map (some b))) (hD : D[k0]? = some (mpf b L c)) (hd : Nat.ble (d + 1) X.N = true)
    (k : ∀ i, φ (put t d (.pointer (some ⟨i, 0, none⟩))) (itf i b c [] c :: D)) : Step X (some d) (.range xT x) t D φ := by
  intro o hdst hop ρ a w ha hw Q K hK
  obtain ⟨fp, hb, _⟩ := hw.get k0 hD
  have hr : (execOp a.eval o).run X.P w = .ok (.value (.pointer (some ⟨w.heap.size, 0, none⟩))) (w.alloc (.mapIter (some b) c #[] c)) := by
    unfold execOp
    simp only [hop, Instr.range, ha.ev hx, Sem.run_bind, Sem.run_pure, Result.andThen_ok, hU.run_und hty, MapKept.run_getObj_map hb]
    rfl
  have hs := hw.alloc (.mapIter (some b) c #[] c) (itf w.heap.size b c [] c) rfl ⟨heap_alloc_new w _, fun x => Iff.rfl⟩
  refine wp_val hr (hK _ _ _ _ ?_ hs (k w.heap.size))
  rw [hdst]
  exact ha.put (Nat.le_of_ble_eq_true hd) _
omit hU in
theorem SAT.itSet {w0 : World} {W : FP} {D : List Fact} {w : World} {i m s l l' : Nat} {seen seen' : List Nat} (h : SAT w0 W (itf i m s seen l :: D) w) : SAT w0 W (itf i m s seen' l' :: D) (setBlock w i (.mapIter (some m) s seen'.toArray l')) := by
  refine h.change rfl (itf i m s seen' l') rfl rfl rfl rfl (by simp [setBlock]) fun fp hp => ⟨fun x hx => ?_, ?_, hp.2⟩
  · have : i ≠ x := fun e => hx ((hp.2 x).2 e.symm)
    simp [setBlock, Array.getElem?_setIfInBounds, this]
  · have hlt := (Array.getElem?_eq_some_iff.1 hp.1).1
    simp [setBlock, Array.getElem?_setIfInBounds, hlt]
omit hU in
theorem Step.next {d : Nat} {x : Operand} (k0 k1 i b c : Nat) (L : List Me) (seen : List Nat) (hx : ev t x = some (.pointer (some ⟨i, 0, none⟩))) (hi : D[k0]? = some (itf i b c seen c)) (hm : D[k1]? = some (mpf b L c)) (hM : MOK L c) (hd : Nat.ble (d + 1) X.N = true)
    (kz : (∀ e ∈ L, e.2.2 ∈ seen) → φ (put t d (.tuple #[.bool false])) D)
    (ks : ∀ e, e ∈ L → e.2.2 ∉ seen → φ (put t d (.tuple #[.bool true, .string e.1, e.2.1])) (itf i b c (seen ++ [e.2.2]) c :: D.eraseIdx k0)) : Step X (some d) (.next x false) t D φ := by
  intro o hdst hop ρ a w ha hw Q K hK
  obtain ⟨fp, hib, _⟩ := hw.get k0 hi
  obtain ⟨fp2, hb, _⟩ := hw.get k1 hm
  have hold : ∀ x ∈ (L.map meE).toArray.toList, x.born < c := fun x hx => by
    obtain ⟨e, he, rfl⟩ := List.mem_map.1 (show x ∈ L.map meE from hx)
    exact hM.old e he
  rcases run_next_at (P := X.P) w o.type i b c c seen.toArray (L.map meE).toArray c hib hb hold (Nat.le_refl _) with ⟨h0, hr0⟩ | ⟨e, he, w1, hw1, hr1⟩
  · have hr : (execOp a.eval o).run X.P w = .ok (.value (.tuple #[.bool false])) w := by
      unfold execOp
      simp only [hop, ha.ev hx, Sem.run_bind, hr0, Result.andThen_ok, Sem.run_pure]
    refine wp_val hr (hK _ _ _ _ ?_ hw (kz (fun e he => ?_)))
    · rw [hdst]
      exact ha.put (Nat.le_of_ble_eq_true hd) _
    · apply Classical.byContradiction
      intro hne
      have : meE e ∈ leftOf (L.map meE).toArray seen.toArray := by
        unfold leftOf
        rw [Array.mem_filter]
        exact ⟨List.mem_toArray.2 (List.mem_map.2 ⟨e, he, rfl⟩), by simpa [meE] using hne⟩
      rw [Array.eq_empty_of_size_eq_zero h0] at this
      simp at this
  · have hr : (execOp a.eval o).run X.P w = .ok (.value (.tuple #[.bool true, e.key, e.val])) (setBlock w1 i (.mapIter (some b) c (seen.toArray.push e.born) c)) := by
      unfold execOp
      simp only [hop, ha.ev hx, Sem.run_bind, hr1, Result.andThen_ok, Sem.run_pure]
    have hm2 : e ∈ (L.map meE).toArray ∧ e.born ∉ seen := by
      unfold leftOf at he
      have he2 := Array.mem_filter.1 (Array.mem_toList_iff.1 he)
      exact ⟨he2.1, by simpa using he2.2⟩
    obtain ⟨e', he', rfl⟩ := List.mem_map.1 (List.mem_toArray.1 hm2.1)
    have hws : SAT ρ.w0 ρ.W (itf i b c seen c :: D.eraseIdx k0) w1 := by
      rcases hw1 with rfl | rfl
      · exact hw.pull hi
      · exact (hw.pull hi).drew
    have hs := SAT.itSet (seen' := seen ++ [e'.2.2]) (l' := c) hws
    have e1 : (seen ++ [e'.2.2]).toArray = seen.toArray.push (meE e').born := by simp [meE]
    rw [e1] at hs
    refine wp_val hr (hK _ _ _ _ ?_ hs (ks e' he' hm2.2))
    rw [hdst]
    exact ha.put (Nat.le_of_ble_eq_true hd) _
omit hU in
theorem Step.entry {d : Nat} {x : Operand} (k0 k1 i b c : Nat) (L : List Me) (seen : List Nat) (e : Me) (hx : ev t x = some (.pointer (some ⟨i, 0, none⟩))) (hi : D[k0]? = some (itf i b c (seen ++ [e.2.2]) c)) (hm : D[k1]? = some (mpf b L c)) (hM : MOK L c) (he : e ∈ L) (hd : Nat.ble (d + 1) X.N = true)
    (k : φ (put t d (.tuple #[.string e.1, e.2.1])) D) : Step X (some d) (.entry x) t D φ := by
  intro o hdst hop ρ a w ha hw Q K hK
  obtain ⟨fp, hib, _⟩ := hw.get k0 hi
  obtain ⟨fp2, hb, _⟩ := hw.get k1 hm
  have e1 : (seen ++ [e.2.2]).toArray = seen.toArray.push (meE e).born := by simp [meE]
  rw [e1] at hib
  have hr0 := run_entry_at (P := X.P) w i b c seen.toArray (L.map meE).toArray c (meE e) hib hb (List.mem_map.2 ⟨e, he, rfl⟩) (by
    show ((L.map meE).map (·.born)).Nodup
    rw [List.map_map]
    exact hM.born)
  have hr : (execOp a.eval o).run X.P w = .ok (.value (.tuple #[.string e.1, e.2.1])) w := by
    unfold execOp
    simp only [hop, ha.ev hx, Sem.run_bind, hr0, Result.andThen_ok, Sem.run_pure]
    rfl
  refine wp_val hr (hK _ _ _ _ ?_ hw k)
  rw [hdst]
  exact ha.put (Nat.le_of_ble_eq_true hd) _
end
end Go.Proofs.Ytlibhidhfbecbaa.SL

/- Rows of truths: made, and written. -/
namespace Go.Proofs.Ytlibhidhfbecbaa.SL
set_option linter.unusedVariables false
set_option linter.unusedSimpArgs false
open Go
section
variable {X : Cx} {U : Tab} (hU : U.OK X.P) {t : Env} {D : List Fact} {φ : Env → List Fact → Prop}
theorem bls_set (ks : List Bool) (i : Nat) (v : Bool) : bls (ks.set i v) = (bls ks).set i (.bool v) := by rw [bls, bls, List.map_set]
include hU
theorem Step.store_bl {ty : TypeId} {x y : Operand} (k0 T n cap : Nat) (A : Option Addr) (ks : List Bool) (i : Int) (v : Bool) (hx : ev t x = some (.pointer (elemAt A i 1))) (hy : ev t y = some (.bool v)) (hD : D[k0]? = some (row T 1 (.slice A n cap) n (bls ks))) (hm : look U.sz ty = some 1)
    (hi : 0 ≤ i ∧ i < ks.length) (k : φ t (row T 1 (.slice A n cap) n (bls (ks.set i.toNat v)) :: D.eraseIdx k0)) : Step X none (.store ty x y) t D φ := by
  refine Step.store_row hU k0 T 1 n cap A (bls ks) i (.bool v) hx hy hD 1 hm [.bool v] rfl rfl rfl (by rw [bls_len]; omega) (by rw [bls_len]; omega) ?_
  rw [Nat.mul_one]
  rw [bls_set] at k
  rw [List.set_eq_take_append_cons_drop, if_pos (by rw [bls_len]; omega)] at k
  simpa [wr] using k
theorem Step.make_bls {d : Nat} {ty : TypeId} {x y : Operand} (e by_ : Nat) (kl kc : IntKind) (l : Int) (hty : look U.und ty = some (.slice e)) (hti : look U.ti e = some (1, by_, .bool false)) (hx : ev t x = some (.int kl l)) (hy : ev t y = some (.int kc l))
    (hl : 0 ≤ l ∧ l ≤ 140737488355328) (hb : (by_ : Int) * l ≤ 281474976710656) (hd : Nat.ble (d + 1) X.N = true)
    (k : ∀ b, φ (put t d (.slice (some ⟨b, 0, none⟩) l.toNat l.toNat)) (row e 1 (.slice (some ⟨b, 0, none⟩) l.toNat l.toNat) l.toNat (bls (List.replicate l.toNat false)) :: D)) : Step X (some d) (.makeSlice ty x y) t D φ := by
  refine Step.after (Step.make hU e 1 by_ (.bool false) kl kc l l hty hti hx hy hl.1 (by omega) hb (by omega) hd (fun b => ?_))
  have e1 : (madeCells (Value.bool false).cells (l.toNat * 1)).toList = bls (List.replicate l.toNat false) := by
    rw [show (Value.bool false).cells = #[Value.bool false] from rfl, Nat.mul_one, toList_madeCells_one, bls, List.map_replicate]
  rw [e1]
  refine ⟨_, fun _ _ w hs => ?_, k b⟩
  have := SAT.row_of_blk (s := 1) (n := l.toNat) (cap := l.toNat) hs (Nat.le_refl _) (by simp only [maxLen]; omega) (by simp [bls_len])
  rwa [List.take_of_length_le (by simp [bls_len])] at this
end
end Go.Proofs.Ytlibhidhfbecbaa.SL

/- Ranges over functions whose iterators give back what they took. -/
namespace Go.Proofs.Ytlibhidhfbecbaa.SL
set_option linter.unusedVariables false
set_option linter.unusedSimpArgs false
open Go
def IterR (P : Program) (gf : FuncId) (cap : List Value) (m : Nat) (Ea : Nat → List Value) (Ev : Nat → List Fact) (C V Cr : List Fact) : Prop :=
  ∀ (l : Nat) (B Sx : Fact) (S : Nat → Fact), B.own = false → Sx.own = true → (∀ i, (S i).own = true) →
    (∀ i, i < m → YieldS P l (Ea i) ([S i] ++ (B :: Ev i)) (fun r D' => (r = .bool true ∧ D' = [S (i + 1)]) ∨ (r = .bool false ∧ D' = [Sx]))) →
    CallsS P gf (.func (.yield l) #[] #[] :: cap) ((S 0 :: C) ++ (B :: V)) (fun _ D' => D' = S m :: Cr ∨ D' = Sx :: Cr)
section
variable {X : Cx} {K : Post} {t : Env} {D : List Fact}
theorem RunC.rangeFuncR {g : Operand} {ps : Array Tmp} {assign body : Code} (gf : FuncId) (cap : List Value) (hg : ev t g = some (.func (.func gf) #[] cap.toArray)) (m : Nat) (Ea : Nat → List Value) (Ev : Nat → List Fact) (Cit Vit Cr : List Fact) (hit : IterR X.P gf cap m Ea Ev Cit Vit Cr)
    {α β : Type} (p : Nat → α → Prop) (L : α → List Fact) (c : Code) (q : β → Prop) (M : β → List Fact) (V E : List Fact) (x0 : α) (hp0 : p 0 x0) (ks : List Nat) (hD : pulls ks D = (L x0 ++ Cit, E)) (hV : Lend E V) (hVn : ∀ f ∈ V, f.own = false) (hVit : Lend E Vit)
    (hLo : ∀ i x, p i x → ∀ f ∈ L x, f.own = true) (hMo : ∀ y, q y → ∀ f ∈ M y, f.own = true) (hps : ∀ i, (Ea i).length = ps.size) (hpN : ps.toList.all (fun d => Nat.ble (d + 1) X.N) = true)
    (hround : ∀ l R i x, i < m → p i x → RunC ⟨X.P, X.N, some l⟩ (kassign ⟨X.P, X.N, some l⟩ l R body (kyield l R (p (i + 1)) L c q M)) assign (putAll t (ps.toList.zip (Ea i))) (objF l (.loop (R .ready none)) :: L x ++ (V ++ Ev i)))
    (hdone : ∀ x, p m x → K .normal t (L x ++ (Cr ++ E))) (hstop : ∀ y, q y → RunC X K c t (M y ++ (Cr ++ E))) (hr : X.r = none := by rfl) : RunC X K (.rangeFunc g ps assign body) t D := by
  intro ρ a w ha hw
  have hF : X.F = Fence.wide := by unfold Cx.F; rw [hr]; rfl
  refine wpIn_rangeFunc (fun fn hfn => ?_)
  obtain ⟨R, hR⟩ : ∃ R : LoopState → Option Code → Loop, R = fun st pe => { state := st, pending := pe, fn, tmps := a.tmps, params := ps, assign, body, defers := w.heap.size } := ⟨_, rfl⟩
  have hround0 : X.F.round = none := hr
  rw [hround0]
  obtain ⟨S, hS⟩ : ∃ S : Nat → Fact, S = fun i => exF (p i) (fun x => objF (w.heap.size + 1) (.loop (R .ready none)) :: L x) := ⟨_, rfl⟩
  obtain ⟨Sx, hSx⟩ : ∃ Sx : Fact, Sx = exF q (fun y => objF (w.heap.size + 1) (.loop (R .done (some c))) :: M y) := ⟨_, rfl⟩
  have hSo : ∀ i, (S i).own = true := fun i => by rw [hS]; rfl
  have hSxo : Sx.own = true := by rw [hSx]; rfl
  have h1 : SAT ρ.w0 ρ.W (objF w.heap.size (.deferred (some [])) :: D) (w.alloc (.deferred (some []))) := hw.alloc _ _ rfl ⟨heap_alloc_new w _, fun _ => Iff.rfl⟩
  have h2 : SAT ρ.w0 ρ.W (objF (w.heap.size + 1) (.loop (R .ready none)) :: objF w.heap.size (.deferred (some [])) :: D) ((w.alloc (.deferred (some []))).alloc (.loop (R .ready none))) := by
    have h := h1.alloc (.loop (R .ready none)) (objF (w.alloc (.deferred (some []))).heap.size (.loop (R .ready none))) rfl ⟨heap_alloc_new _ _, fun _ => Iff.rfl⟩
    rwa [World.size_alloc] at h
  have hperm := pulls_perm ks D
  rw [hD] at hperm
  have h3 : SAT ρ.w0 ρ.W ((objF (w.heap.size + 1) (.loop (R .ready none)) :: L x0) ++ (Cit ++ (objF w.heap.size (.deferred (some [])) :: E))) ((w.alloc (.deferred (some []))).alloc (.loop (R .ready none))) := by
    refine h2.perm (List.Perm.cons _ ?_)
    refine (List.Perm.cons _ hperm).trans ?_
    have e : L x0 ++ (Cit ++ (objF w.heap.size (.deferred (some [])) :: E)) = (L x0 ++ Cit) ++ (objF w.heap.size (.deferred (some [])) :: E) := by rw [List.append_assoc]
    show List.Perm _ (L x0 ++ (Cit ++ _))
    rw [e]
    exact List.perm_middle.symm
  have h4 := exF_close (p := p 0) (L := fun x => objF (w.heap.size + 1) (.loop (R .ready none)) :: L x) x0 hp0 (fun f hf => by
    rcases List.mem_cons.1 hf with rfl | hf
    · rfl
    · exact hLo 0 x0 hp0 f hf) h3
  have h5 : SAT ρ.w0 ρ.W ((S 0 :: Cit) ++ (objF w.heap.size (.deferred (some [])) :: E)) ((w.alloc (.deferred (some []))).alloc (.loop (R .ready none))) := by rw [hS]; exact h4
  have hlend : Lend (objF w.heap.size (.deferred (some [])) :: E) (viewsF V :: Vit) := (Lend.views hVn hV hVit).tail
  obtain ⟨O1, hpre, hpost⟩ := h5.call (List.Perm.refl _) hlend
  have hY : ∀ i, i < m → YieldS X.P (w.heap.size + 1) (Ea i) ([S i] ++ (viewsF V :: Ev i)) (fun r D' => (r = .bool true ∧ D' = [S (i + 1)]) ∨ (r = .bool false ∧ D' = [Sx])) := by
    intro i hi w1 W1 hs
    rw [hS] at hs
    obtain ⟨x, hpx, hs⟩ := exF_open (D := viewsF V :: Ev i) hs
    have hs2 : SAT w1 W1 (objF (w.heap.size + 1) (.loop (R .ready none)) :: L x ++ (V ++ Ev i)) w1 := by
      have hv := viewsF_open hVn (hs.perm List.perm_middle)
      refine hv.perm ?_
      have e : objF (w.heap.size + 1) (.loop (R .ready none)) :: L x ++ (V ++ Ev i) = ((objF (w.heap.size + 1) (.loop (R .ready none)) :: L x) ++ V) ++ Ev i := by rw [List.append_assoc]
      rw [e, ← List.append_assoc]
      exact List.perm_append_comm.append_right _
    obtain ⟨_, hl, _⟩ := hs2.head
    have hsz : (Ea i).toArray.size = (R .ready none).params.size := by rw [hR]; simpa using hps i
    refine ⟨_, _, _, _, run_yield hl hsz, ?_⟩
    have hput := putAll_at (l := ps.toList.zip (Ea i)) (t := t) (tmps := a.tmps) (N := X.N) (fun pr hpr => by
      have hm := (List.of_mem_zip hpr).1
      exact Nat.le_of_ble_eq_true (List.all_eq_true.1 hpN pr.1 hm)) ha.size ha.at_
    have hfold : ((R .ready none).params.zip (Ea i).toArray).foldl (fun tmps (x : Tmp × Value) => tmps.setIfInBounds x.1 x.2) (R .ready none).tmps = (ps.toList.zip (Ea i)).foldl (fun t (x : Nat × Value) => t.setIfInBounds x.1 x.2) a.tmps := by
      rw [hR, ← Array.foldl_toList]
      simp
    have hgo := hround (w.heap.size + 1) R i x hi hpx ⟨w1, W1, []⟩ { tmps := (ps.toList.zip (Ea i)).foldl (fun t (x : Nat × Value) => t.setIfInBounds x.1 x.2) a.tmps, defers := [] } w1 ⟨⟨List.nodup_nil, fun b hb => by cases hb⟩, rfl, hput.1, hput.2⟩ hs2
    have hR1 : (R .ready none).assign = assign := by rw [hR]
    have hR2 : (R .ready none).body = body := by rw [hR]
    rw [hR1, hR2]
    have fin : ∀ (ρ1 : Root) (G : List Fact) (w' : World), Ext ⟨w1, W1, []⟩ ρ1 → SAT ρ1.w0 ρ1.W G w' → SAT w1 W1 G w' := fun ρ1 G w' hx hs => by
      have h := hx G w' (hs.monoW (fun _ h => .inl h))
      exact h.monoW (fun b hb => hb.elim id (fun h => by cases h))
    refine roundIn_of_wpIn trivial ?_
    have e0 : ((R .ready none).params.zip (Ea i).toArray).foldl (fun tmps (t, a) => tmps.setIfInBounds t a) (R .ready none).tmps = (ps.toList.zip (Ea i)).foldl (fun t (x : Nat × Value) => t.setIfInBounds x.1 x.2) a.tmps := hfold
    rw [e0]
    refine wpIn_mono hgo ?_
    rintro e a1 w2 ⟨ρ1, t1, D1, hx1, ha1, hs1, hk1⟩
    cases e with
    | normal =>
      obtain ⟨k0, hk0, hrun⟩ := hk1
      have hp1 := hs1.pull hk0
      obtain ⟨_, hl1, _⟩ := hp1.head
      have hb1 := run_beginRound (P := X.P) hl1 (by rw [hR])
      have hob := hp1.obj (.loop (R .busy none))
      have hRb : ({ R .ready none with state := .busy } : Loop) = R .busy none := by rw [hR]
      rw [hRb] at hb1
      refine ⟨_, hb1, wpIn_mono (hrun ρ1 a1 _ ha1 hob) ?_⟩
      rintro e a2 w3 ⟨ρ2, t2, D2, hx2, ha2, hs2, hk2⟩
      have hx := hx1.trans hx2
      cases e with
      | normal =>
        obtain ⟨x', hp', hsel⟩ := hk2
        have h6 := hsel _ _ _ hs2
        obtain ⟨_, hl2, _⟩ := h6.head
        have hend := run_endRound (P := X.P) none hl2
        have hRe : ({ R .busy none with state := if (none : Option Code).isNone then .ready else .done, pending := none } : Loop) = R .ready none := by rw [hR]; rfl
        rw [hRe] at hend
        have h7 := fin ρ2 _ _ hx (h6.obj (.loop (R .ready none)))
        refine ⟨_, _, hend, _, [S (i + 1)], rfl, .inl ⟨rfl, rfl⟩, fun f hf => by rw [List.mem_singleton.1 hf]; exact hSo _, ?_⟩
        rw [hS]
        refine exF_close (p := p (i + 1)) (L := fun x => objF (w.heap.size + 1) (.loop (R .ready none)) :: L x) x' hp' (fun f hf => ?_) (by simpa using h7)
        rcases List.mem_cons.1 hf with rfl | hf
        · rfl
        · exact hLo _ x' hp' f hf
      | ret =>
        obtain ⟨hc, y, hq, hsel⟩ := hk2
        have h6 := hsel _ _ _ hs2
        obtain ⟨_, hl2, _⟩ := h6.head
        have hend := run_endRound (P := X.P) (some .ret) hl2
        have hRe : ({ R .busy none with state := if (some Code.ret : Option Code).isNone then .ready else .done, pending := some .ret } : Loop) = R .done (some c) := by rw [hR, hc]; rfl
        rw [hRe] at hend
        have h7 := fin ρ2 _ _ hx (h6.obj (.loop (R .done (some c))))
        refine ⟨_, _, hend, _, [Sx], rfl, .inr ⟨rfl, rfl⟩, fun f hf => by rw [List.mem_singleton.1 hf]; exact hSxo, ?_⟩
        rw [hSx]
        refine exF_close (p := q) (L := fun y => objF (w.heap.size + 1) (.loop (R .done (some c))) :: M y) y hq (fun f hf => ?_) (by simpa using h7)
        rcases List.mem_cons.1 hf with rfl | hf
        · rfl
        · exact hMo y hq f hf
      | exit j =>
        obtain ⟨hc, y, hq, hsel⟩ := hk2
        have h6 := hsel _ _ _ hs2
        obtain ⟨_, hl2, _⟩ := h6.head
        have hend := run_endRound (P := X.P) (some (.exit j)) hl2
        have hRe : ({ R .busy none with state := if (some (Code.exit j) : Option Code).isNone then .ready else .done, pending := some (.exit j) } : Loop) = R .done (some c) := by rw [hR, hc]; rfl
        rw [hRe] at hend
        have h7 := fin ρ2 _ _ hx (h6.obj (.loop (R .done (some c))))
        refine ⟨_, _, hend, _, [Sx], rfl, .inr ⟨rfl, rfl⟩, fun f hf => by rw [List.mem_singleton.1 hf]; exact hSxo, ?_⟩
        rw [hSx]
        refine exF_close (p := q) (L := fun y => objF (w.heap.size + 1) (.loop (R .done (some c))) :: M y) y hq (fun f hf => ?_) (by simpa using h7)
        rcases List.mem_cons.1 hf with rfl | hf
        · rfl
        · exact hMo y hq f hf
      | goto l => exact hk2.elim
      | panic ch => exact hk2.elim
      | outgrown => exact hk2.elim
    | _ => exact hk1.elim
  have hcalls := hit (w.heap.size + 1) (viewsF V) Sx S rfl hSxo hSo hY
  obtain ⟨⟨gfn, gcb, hf, hb, hname⟩, hcalls⟩ := hcalls
  have hcalls := hcalls _ O1 hpre
  have hR0 : (Obj.loop { state := .ready, pending := none, fn, tmps := a.tmps, params := ps, assign, body, defers := w.heap.size } : Obj) = .loop (R .ready none) := by rw [hR]
  have hok' : ∀ (ρ' : Root), ρ'.OK → ρ'.ds = w.heap.size :: ρ.ds → EnvOK X.N ρ' t { a with defers := [{ target := .collected w.heap.size, args := #[] }] ++ a.defers } := fun ρ' h1 h2 => ⟨h1, by rw [h2]; simp only [List.map_cons, ha.defers]; rfl, ha.size, ha.at_⟩
  refine ⟨w.heap.size + 1, [{ target := .collected w.heap.size, args := #[] }], (w.alloc (.deferred (some []))).alloc (.loop (R .ready none)), { target := .fn (.func gf) cap.toArray, args := #[.func (.yield (w.heap.size + 1)) #[] #[]] }, (w.alloc (.deferred (some []))).alloc (.loop (R .ready none)), gf,
    #[.func (.yield (w.heap.size + 1)) #[] #[]] ++ cap.toArray, (w.alloc (.deferred (some []))).alloc (.loop (R .ready none)), ?_, ?_, fun f' _ => by rw [hF]; trivial, ?_, fun h => by rw [hF] at h; simp [Fence.wide] at h, ?_⟩
  · rw [← hR0]
    exact run_enterLoop_outer _ _ _ _ _
  · simp only [resolve, ha.ev hg]
    simp [go_sem]
  · simp [invoke, go_sem, callFunc, hf, hb, hname]
  · rw [hF]
    have e : (Value.func (.yield (w.heap.size + 1)) #[] #[] :: cap).toArray = #[.func (.yield (w.heap.size + 1)) #[] #[]] ++ cap.toArray := by simp
    rw [e] at hcalls
    refine (callsIn_wide (n := 0 - 1)).2 (hcalls.mono ?_)
    · rintro e w3 ⟨r, D', rfl, hD', hown, hs3⟩
      have h8 := hpost D' w3 hown hs3
      rcases hD' with rfl | rfl
      · rw [hS] at h8
        obtain ⟨x, hpx, h9⟩ := exF_open (D := Cr ++ (objF w.heap.size (.deferred (some [])) :: E)) (by simpa using h8)
        obtain ⟨_, hl3, _⟩ := h9.head
        have hend := run_endLoop (P := X.P) hl3 (by rw [hR]; simp)
        have hpend : (R .ready none).pending = none := by rw [hR]
        have hend := hend.trans (congrArg (fun x => Result.ok x _) hpend)
        refine ⟨none, _, hend, ?_⟩
        have h10 := (h9.obj (.loop { R .ready none with state := .exhausted })).tail
        obtain ⟨ρ', hx, hok, hds, h11⟩ := SAT.reroot (h10.perm (show List.Perm (L x ++ (Cr ++ (objF w.heap.size (.deferred (some [])) :: E))) (objF w.heap.size (.deferred (some [])) :: ((L x ++ Cr) ++ E)) from by rw [← List.append_assoc]; exact List.perm_middle)) ha.ok
        rw [List.append_assoc] at h11
        exact ⟨ρ', t, L x ++ (Cr ++ E), hx, hok' ρ' hok hds, h11, hdone x hpx⟩
      · rw [hSx] at h8
        obtain ⟨y, hq, h9⟩ := exF_open (D := Cr ++ (objF w.heap.size (.deferred (some [])) :: E)) (by simpa using h8)
        obtain ⟨_, hl3, _⟩ := h9.head
        have hend := run_endLoop (P := X.P) hl3 (by rw [hR]; simp)
        have hpend : (R .done (some c)).pending = some c := by rw [hR]
        have hend := hend.trans (congrArg (fun x => Result.ok x _) hpend)
        refine ⟨some c, _, hend, ?_⟩
        have h10 := (h9.obj (.loop { R .done (some c) with state := .exhausted })).tail
        obtain ⟨ρ', hx, hok, hds, h11⟩ := SAT.reroot (h10.perm (show List.Perm (M y ++ (Cr ++ (objF w.heap.size (.deferred (some [])) :: E))) (objF w.heap.size (.deferred (some [])) :: ((M y ++ Cr) ++ E)) from by rw [← List.append_assoc]; exact List.perm_middle)) ha.ok
        rw [List.append_assoc] at h11
        have hgo := hstop y hq ρ' _ _ (hok' ρ' hok hds) h11
        rw [hF] at hgo
        exact wpIn_mono hgo (fun e a w hd => den_mono hx (fun _ _ _ hk => hk) hd)
end
end Go.Proofs.Ytlibhidhfbecbaa.SL

/- Rows of texts, sorted by Go's library. -/
namespace Go.Proofs.Ytlibhidhfbecbaa.SL
set_option linter.unusedVariables false
set_option linter.unusedSimpArgs false
open Go Go.Proofs Go.Shelf Go.Sort
theorem SAT.grown {w0 : World} {W : FP} {D : List Fact} {w : World} (h : SAT w0 W D w) (n : Nat) (os : Array Obj) : SAT w0 W D (grow (Sort.ahead w n) os) := by
  obtain ⟨fr, O, R, h1, h2, h3, h4⟩ := h
  have hold : ∀ b, b < w.heap.size → (grow (Sort.ahead w n) os).heap[b]? = w.heap[b]? := fun b hb => by
    show (w.heap ++ os)[b]? = _
    rw [Array.getElem?_append_left hb]
  have hsz : w.heap.size ≤ (grow (Sort.ahead w n) os).heap.size := by
    show _ ≤ (w.heap ++ os).size
    rw [Array.size_append]; omega
  exact ⟨⟨fr.os, fr.tape, fr.output, Nat.le_trans fr.size hsz, fun b hb hW => (hold b (Nat.lt_of_lt_of_le hb fr.size)).trans (fr.block b hb hW)⟩, O, R, sat_loc h1 (fun b hb => hold b (h4 b hb)), h2, h3, fun b hb => Nat.lt_of_lt_of_le (h4 b hb) hsz⟩
def srtB (xs : List ByteArray) : List ByteArray := ((xs.map (·.data.toList)).mergeSort fun x y => decide (x ≤ y)).map fun l => ⟨l.toArray⟩
theorem srtB_len (xs : List ByteArray) : (srtB xs).length = xs.length := by simp [srtB]
theorem putCells_row (ss ss' : List (List UInt8)) (ex : List Value) (hl : ss'.length = ss.length) : putCells encStr 0 ss'.toArray (ss.map encStr ++ ex).toArray = (ss'.map encStr ++ ex).toArray := by
  apply Array.ext_getElem?
  intro k
  unfold putCells
  rw [Array.getElem?_mapIdx]
  simp only [List.getElem?_toArray, List.size_toArray, Nat.zero_le, true_and, Nat.zero_add, Nat.sub_zero]
  by_cases hk : k < ss.length
  · rw [List.getElem?_append_left (by simpa using hk), List.getElem?_append_left (by simpa [hl] using hk)]
    rw [List.getElem?_map, List.getElem?_map, List.getElem?_eq_getElem hk, List.getElem?_eq_getElem (by omega : k < ss'.length)]
    simp only [Option.map_some]
    rw [if_pos (by omega)]
    simp [hl, hk]
  · rw [List.getElem?_append_right (by simpa using Nat.le_of_not_lt hk), List.getElem?_append_right (by simpa [hl] using Nat.le_of_not_lt hk), List.length_map, List.length_map, hl]
    cases ex[k - ss.length]? with
    | none => rfl
    | some v => simp only [Option.map_some]; rw [if_neg (by omega)]
theorem sort_texts {P : Program} {ρ : Ren} (Ly : Lays.n190 P ρ) (T : TypeId) (A : Option Addr) (n c : Nat) (xs : List ByteArray) (hn : xs.length = n) (hb : n ≤ 4000000000) (hf : ∃ fn c, P.funcs[ρ.f 190]? = some fn ∧ fn.body = some c ∧ fn.name ≠ "runtime.NumGoroutine") :
    CallsS P (ρ.f 190) [.slice A n c] [row T 1 (.slice A n c) n (strV xs)] (fun r D' => r = .tuple #[] ∧ D' = [row T 1 (.slice A n c) n (strV (srtB xs))]) := by
  refine ⟨hf, fun w W hs => ?_⟩
  obtain ⟨fp, hl, hlt, h | ⟨b, cap, ex, hv, hb0, hnc, hmx, hcl, hfp⟩⟩ := hs.head
  · obtain ⟨hv, h0⟩ := h
    injection hv with hA hn0 hc
    subst hA; subst h0; subst hc
    have hx : xs = [] := List.eq_nil_of_length_eq_zero hn
    subst hx
    refine (Any.slices_Sort_string_none Ly none 0 w).mono ?_
    rintro e w' ⟨rfl, rfl⟩
    exact ⟨_, _, rfl, ⟨rfl, rfl⟩, fun f hf => by rw [List.mem_singleton] at hf; subst hf; rfl, by rw [show srtB [] = [] by simp [srtB]]; exact hs⟩
  · injection hv with hA _ hc
    subst hA; subst hc
    obtain ⟨ss, hss⟩ : ∃ ss : List (List UInt8), ss = xs.map (·.data.toList) := ⟨_, rfl⟩
    have hstr : ∀ ys : List (List UInt8), ys.map encStr = strV (ys.map fun l => ⟨l.toArray⟩) := fun ys => by simp [strV, encStr]
    have hxs : strV xs = ss.map encStr := by rw [hss, strV, List.map_map]; exact List.map_congr_left fun x _ => by simp [encStr]
    have hsl : ss.length = n := by rw [hss, List.length_map, hn]
    have hblk : b < w.heap.size := hlt b ((hfp b).2 rfl)
    rw [hxs] at hb0
    have hH : Holds encStr w b 0 ss.toArray := fun j hj => by
      have hj2 : j < ss.length := by simpa using hj
      rw [Nat.zero_add]
      refine ⟨?_, by simp [World.frozen?, hb0]⟩
      simp only [World.cell?, hb0]
      simp [List.getElem?_append_left, hj2]
    refine hsl ▸ (Any.slices_Sort_string Ly b 0 c ss w hH hblk (by omega)).mono ?_
    rintro e w' ⟨rfl, k, os, rfl⟩
    refine ⟨_, _, rfl, ⟨rfl, rfl⟩, fun f hf => by rw [List.mem_singleton] at hf; subst hf; rfl, ?_⟩
    have hms : (ss.mergeSort fun x y => decide (x ≤ y)).length = ss.length := List.length_mergeSort _
    have hsr : strV (srtB xs) = (ss.mergeSort fun x y => decide (x ≤ y)).map encStr := by rw [hstr, hss, srtB]
    have h1 := hs.change (w' := putRow encStr w b 0 (ss.mergeSort fun x y => decide (x ≤ y)).toArray) rfl (row T 1 (.slice (some ⟨b, 0, none⟩) n c) n (strV (srtB xs))) rfl rfl rfl rfl (by simp [putRow, mapBlock]) (fun fp2 hp2 => ?_)
    · have h2 := h1.grown k os
      rw [hsl]
      exact h2
    · obtain ⟨_, hlt2, h | ⟨b2, cap2, ex2, hv2, hb2, _, _, hcl2, hfp2⟩⟩ := hp2
      · exact absurd h.1 (by simp)
      · injection hv2 with e1 _ e2
        injection e1 with e1
        injection e1 with e1
        subst e1; subst e2
        refine ⟨fun d hd => ?_, by rw [strV_len, srtB_len, hn, Nat.mul_one], fun d hd => by simp only [putRow, mapBlock, Array.size_modify]; exact hlt2 d hd, .inr ⟨b, c, ex2, rfl, ?_, hnc, hmx, ?_, hfp2⟩⟩
        · simp only [putRow, mapBlock, Array.getElem?_modify]
          rw [if_neg (fun e => hd ((hfp2 d).2 e.symm))]
        · simp only [putRow, mapBlock, Array.getElem?_modify, if_true]
          rw [hxs] at hb2
          rw [hb2, Option.map_some, onCells, putCells_row _ _ _ hms, hsr]
        · rw [← hcl2, List.length_append, List.length_append, strV_len, strV_len, srtB_len]
end Go.Proofs.Ytlibhidhfbecbaa.SL

/- Ranges over functions whose order nobody knows. -/
namespace Go.Proofs.Ytlibhidhfbecbaa.SL
set_option linter.unusedVariables false
set_option linter.unusedSimpArgs false
open Go
def IterL (P : Program) (gf : FuncId) (cap : List Value) {ε : Type} (ok : List ε → ε → Prop) (Ea : List ε → ε → List Value) (fin : List ε → Prop) (C V Cr : List Fact) : Prop :=
  ∀ (l : Nat) (B Sx : Fact) (S : List ε → Fact), B.own = false → Sx.own = true → (∀ i, (S i).own = true) →
    (∀ i e, ok i e → YieldS P l (Ea i e) ([S i] ++ (B :: [])) (fun r D' => (r = .bool true ∧ D' = [S (i ++ [e])]) ∨ (r = .bool false ∧ D' = [Sx]))) →
    CallsS P gf (.func (.yield l) #[] #[] :: cap) ((S [] :: C) ++ (B :: V)) (fun _ D' => (∃ i, fin i ∧ D' = S i :: Cr) ∨ D' = Sx :: Cr)
section
variable {X : Cx} {K : Post} {t : Env} {D : List Fact}
theorem RunC.rangeFuncL {g : Operand} {ps : Array Tmp} {assign body : Code} (gf : FuncId) (cap : List Value) (hg : ev t g = some (.func (.func gf) #[] cap.toArray)) {ε : Type} (ok : List ε → ε → Prop) (Ea : List ε → ε → List Value) (fin : List ε → Prop) (Cit Vit Cr : List Fact) (hit : IterL X.P gf cap ok Ea fin Cit Vit Cr)
    {α β : Type} (p : List ε → α → Prop) (L : α → List Fact) (c : Code) (q : β → Prop) (M : β → List Fact) (V E : List Fact) (x0 : α) (hp0 : p [] x0) (ks : List Nat) (hD : pulls ks D = (L x0 ++ Cit, E)) (hV : Lend E V) (hVn : ∀ f ∈ V, f.own = false) (hVit : Lend E Vit)
    (hLo : ∀ i x, p i x → ∀ f ∈ L x, f.own = true) (hMo : ∀ y, q y → ∀ f ∈ M y, f.own = true) (hps : ∀ i e, (Ea i e).length = ps.size) (hpN : ps.toList.all (fun d => Nat.ble (d + 1) X.N) = true)
    (hround : ∀ l R i e x, ok i e → p i x → RunC ⟨X.P, X.N, some l⟩ (kassign ⟨X.P, X.N, some l⟩ l R body (kyield l R (p (i ++ [e])) L c q M)) assign (putAll t (ps.toList.zip (Ea i e))) (objF l (.loop (R .ready none)) :: L x ++ (V ++ [])))
    (hdone : ∀ i x, fin i → p i x → K .normal t (L x ++ (Cr ++ E))) (hstop : ∀ y, q y → RunC X K c t (M y ++ (Cr ++ E))) (hr : X.r = none := by rfl) : RunC X K (.rangeFunc g ps assign body) t D := by
  intro ρ a w ha hw
  have hF : X.F = Fence.wide := by unfold Cx.F; rw [hr]; rfl
  refine wpIn_rangeFunc (fun fn hfn => ?_)
  obtain ⟨R, hR⟩ : ∃ R : LoopState → Option Code → Loop, R = fun st pe => { state := st, pending := pe, fn, tmps := a.tmps, params := ps, assign, body, defers := w.heap.size } := ⟨_, rfl⟩
  have hround0 : X.F.round = none := hr
  rw [hround0]
  obtain ⟨S, hS⟩ : ∃ S : List ε → Fact, S = fun i => exF (p i) (fun x => objF (w.heap.size + 1) (.loop (R .ready none)) :: L x) := ⟨_, rfl⟩
  obtain ⟨Sx, hSx⟩ : ∃ Sx : Fact, Sx = exF q (fun y => objF (w.heap.size + 1) (.loop (R .done (some c))) :: M y) := ⟨_, rfl⟩
  have hSo : ∀ i, (S i).own = true := fun i => by rw [hS]; rfl
  have hSxo : Sx.own = true := by rw [hSx]; rfl
  have h1 : SAT ρ.w0 ρ.W (objF w.heap.size (.deferred (some [])) :: D) (w.alloc (.deferred (some []))) := hw.alloc _ _ rfl ⟨heap_alloc_new w _, fun _ => Iff.rfl⟩
  have h2 : SAT ρ.w0 ρ.W (objF (w.heap.size + 1) (.loop (R .ready none)) :: objF w.heap.size (.deferred (some [])) :: D) ((w.alloc (.deferred (some []))).alloc (.loop (R .ready none))) := by
    have h := h1.alloc (.loop (R .ready none)) (objF (w.alloc (.deferred (some []))).heap.size (.loop (R .ready none))) rfl ⟨heap_alloc_new _ _, fun _ => Iff.rfl⟩
    rwa [World.size_alloc] at h
  have hperm := pulls_perm ks D
  rw [hD] at hperm
  have h3 : SAT ρ.w0 ρ.W ((objF (w.heap.size + 1) (.loop (R .ready none)) :: L x0) ++ (Cit ++ (objF w.heap.size (.deferred (some [])) :: E))) ((w.alloc (.deferred (some []))).alloc (.loop (R .ready none))) := by
    refine h2.perm (List.Perm.cons _ ?_)
    refine (List.Perm.cons _ hperm).trans ?_
    have e : L x0 ++ (Cit ++ (objF w.heap.size (.deferred (some [])) :: E)) = (L x0 ++ Cit) ++ (objF w.heap.size (.deferred (some [])) :: E) := by rw [List.append_assoc]
    show List.Perm _ (L x0 ++ (Cit ++ _))
    rw [e]
    exact List.perm_middle.symm
  have h4 := exF_close (p := p []) (L := fun x => objF (w.heap.size + 1) (.loop (R .ready none)) :: L x) x0 hp0 (fun f hf => by
    rcases List.mem_cons.1 hf with rfl | hf
    · rfl
    · exact hLo [] x0 hp0 f hf) h3
  have h5 : SAT ρ.w0 ρ.W ((S [] :: Cit) ++ (objF w.heap.size (.deferred (some [])) :: E)) ((w.alloc (.deferred (some []))).alloc (.loop (R .ready none))) := by rw [hS]; exact h4
  have hlend : Lend (objF w.heap.size (.deferred (some [])) :: E) (viewsF V :: Vit) := (Lend.views hVn hV hVit).tail
  obtain ⟨O1, hpre, hpost⟩ := h5.call (List.Perm.refl _) hlend
  have hY : ∀ i e, ok i e → YieldS X.P (w.heap.size + 1) (Ea i e) ([S i] ++ (viewsF V :: [])) (fun r D' => (r = .bool true ∧ D' = [S (i ++ [e])]) ∨ (r = .bool false ∧ D' = [Sx])) := by
    intro i e hi w1 W1 hs
    rw [hS] at hs
    obtain ⟨x, hpx, hs⟩ := exF_open (D := viewsF V :: []) hs
    have hs2 : SAT w1 W1 (objF (w.heap.size + 1) (.loop (R .ready none)) :: L x ++ (V ++ [])) w1 := by
      have hv := viewsF_open hVn (hs.perm List.perm_middle)
      refine hv.perm ?_
      have e : objF (w.heap.size + 1) (.loop (R .ready none)) :: L x ++ (V ++ []) = ((objF (w.heap.size + 1) (.loop (R .ready none)) :: L x) ++ V) ++ [] := by rw [List.append_assoc]
      rw [e, ← List.append_assoc]
      exact List.perm_append_comm.append_right _
    obtain ⟨_, hl, _⟩ := hs2.head
    have hsz : (Ea i e).toArray.size = (R .ready none).params.size := by rw [hR]; simpa using hps i e
    refine ⟨_, _, _, _, run_yield hl hsz, ?_⟩
    have hput := putAll_at (l := ps.toList.zip (Ea i e)) (t := t) (tmps := a.tmps) (N := X.N) (fun pr hpr => by
      have hm := (List.of_mem_zip hpr).1
      exact Nat.le_of_ble_eq_true (List.all_eq_true.1 hpN pr.1 hm)) ha.size ha.at_
    have hfold : ((R .ready none).params.zip (Ea i e).toArray).foldl (fun tmps (x : Tmp × Value) => tmps.setIfInBounds x.1 x.2) (R .ready none).tmps = (ps.toList.zip (Ea i e)).foldl (fun t (x : Nat × Value) => t.setIfInBounds x.1 x.2) a.tmps := by
      rw [hR, ← Array.foldl_toList]
      simp
    have hgo := hround (w.heap.size + 1) R i e x hi hpx ⟨w1, W1, []⟩ { tmps := (ps.toList.zip (Ea i e)).foldl (fun t (x : Nat × Value) => t.setIfInBounds x.1 x.2) a.tmps, defers := [] } w1 ⟨⟨List.nodup_nil, fun b hb => by cases hb⟩, rfl, hput.1, hput.2⟩ hs2
    have hR1 : (R .ready none).assign = assign := by rw [hR]
    have hR2 : (R .ready none).body = body := by rw [hR]
    rw [hR1, hR2]
    have finw : ∀ (ρ1 : Root) (G : List Fact) (w' : World), Ext ⟨w1, W1, []⟩ ρ1 → SAT ρ1.w0 ρ1.W G w' → SAT w1 W1 G w' := fun ρ1 G w' hx hs => by
      have h := hx G w' (hs.monoW (fun _ h => .inl h))
      exact h.monoW (fun b hb => hb.elim id (fun h => by cases h))
    refine roundIn_of_wpIn trivial ?_
    have e0 : ((R .ready none).params.zip (Ea i e).toArray).foldl (fun tmps (t, a) => tmps.setIfInBounds t a) (R .ready none).tmps = (ps.toList.zip (Ea i e)).foldl (fun t (x : Nat × Value) => t.setIfInBounds x.1 x.2) a.tmps := hfold
    rw [e0]
    refine wpIn_mono hgo ?_
    rintro ec a1 w2 ⟨ρ1, t1, D1, hx1, ha1, hs1, hk1⟩
    cases ec with
    | normal =>
      obtain ⟨k0, hk0, hrun⟩ := hk1
      have hp1 := hs1.pull hk0
      obtain ⟨_, hl1, _⟩ := hp1.head
      have hb1 := run_beginRound (P := X.P) hl1 (by rw [hR])
      have hob := hp1.obj (.loop (R .busy none))
      have hRb : ({ R .ready none with state := .busy } : Loop) = R .busy none := by rw [hR]
      rw [hRb] at hb1
      refine ⟨_, hb1, wpIn_mono (hrun ρ1 a1 _ ha1 hob) ?_⟩
      rintro ec a2 w3 ⟨ρ2, t2, D2, hx2, ha2, hs2, hk2⟩
      have hx := hx1.trans hx2
      cases ec with
      | normal =>
        obtain ⟨x', hp', hsel⟩ := hk2
        have h6 := hsel _ _ _ hs2
        obtain ⟨_, hl2, _⟩ := h6.head
        have hend := run_endRound (P := X.P) none hl2
        have hRe : ({ R .busy none with state := if (none : Option Code).isNone then .ready else .done, pending := none } : Loop) = R .ready none := by rw [hR]; rfl
        rw [hRe] at hend
        have h7 := finw ρ2 _ _ hx (h6.obj (.loop (R .ready none)))
        refine ⟨_, _, hend, _, [S (i ++ [e])], rfl, .inl ⟨rfl, rfl⟩, fun f hf => by rw [List.mem_singleton.1 hf]; exact hSo _, ?_⟩
        rw [hS]
        refine exF_close (p := p (i ++ [e])) (L := fun x => objF (w.heap.size + 1) (.loop (R .ready none)) :: L x) x' hp' (fun f hf => ?_) (by simpa using h7)
        rcases List.mem_cons.1 hf with rfl | hf
        · rfl
        · exact hLo _ x' hp' f hf
      | ret =>
        obtain ⟨hc, y, hq, hsel⟩ := hk2
        have h6 := hsel _ _ _ hs2
        obtain ⟨_, hl2, _⟩ := h6.head
        have hend := run_endRound (P := X.P) (some .ret) hl2
        have hRe : ({ R .busy none with state := if (some Code.ret : Option Code).isNone then .ready else .done, pending := some .ret } : Loop) = R .done (some c) := by rw [hR, hc]; rfl
        rw [hRe] at hend
        have h7 := finw ρ2 _ _ hx (h6.obj (.loop (R .done (some c))))
        refine ⟨_, _, hend, _, [Sx], rfl, .inr ⟨rfl, rfl⟩, fun f hf => by rw [List.mem_singleton.1 hf]; exact hSxo, ?_⟩
        rw [hSx]
        refine exF_close (p := q) (L := fun y => objF (w.heap.size + 1) (.loop (R .done (some c))) :: M y) y hq (fun f hf => ?_) (by simpa using h7)
        rcases List.mem_cons.1 hf with rfl | hf
        · rfl
        · exact hMo y hq f hf
      | exit j =>
        obtain ⟨hc, y, hq, hsel⟩ := hk2
        have h6 := hsel _ _ _ hs2
        obtain ⟨_, hl2, _⟩ := h6.head
        have hend := run_endRound (P := X.P) (some (.exit j)) hl2
        have hRe : ({ R .busy none with state := if (some (Code.exit j) : Option Code).isNone then .ready else .done, pending := some (.exit j) } : Loop) = R .done (some c) := by rw [hR, hc]; rfl
        rw [hRe] at hend
        have h7 := finw ρ2 _ _ hx (h6.obj (.loop (R .done (some c))))
        refine ⟨_, _, hend, _, [Sx], rfl, .inr ⟨rfl, rfl⟩, fun f hf => by rw [List.mem_singleton.1 hf]; exact hSxo, ?_⟩
        rw [hSx]
        refine exF_close (p := q) (L := fun y => objF (w.heap.size + 1) (.loop (R .done (some c))) :: M y) y hq (fun f hf => ?_) (by simpa using h7)
        rcases List.mem_cons.1 hf with rfl | hf
        · rfl
        · exact hMo y hq f hf
      | goto l => exact hk2.elim
      | panic ch => exact hk2.elim
      | outgrown => exact hk2.elim
    | _ => exact hk1.elim
  have hcalls := hit (w.heap.size + 1) (viewsF V) Sx S rfl hSxo hSo hY
  obtain ⟨⟨gfn, gcb, hf, hb, hname⟩, hcalls⟩ := hcalls
  have hcalls := hcalls _ O1 hpre
  have hR0 : (Obj.loop { state := .ready, pending := none, fn, tmps := a.tmps, params := ps, assign, body, defers := w.heap.size } : Obj) = .loop (R .ready none) := by rw [hR]
  have hok' : ∀ (ρ' : Root), ρ'.OK → ρ'.ds = w.heap.size :: ρ.ds → EnvOK X.N ρ' t { a with defers := [{ target := .collected w.heap.size, args := #[] }] ++ a.defers } := fun ρ' h1 h2 => ⟨h1, by rw [h2]; simp only [List.map_cons, ha.defers]; rfl, ha.size, ha.at_⟩
  refine ⟨w.heap.size + 1, [{ target := .collected w.heap.size, args := #[] }], (w.alloc (.deferred (some []))).alloc (.loop (R .ready none)), { target := .fn (.func gf) cap.toArray, args := #[.func (.yield (w.heap.size + 1)) #[] #[]] }, (w.alloc (.deferred (some []))).alloc (.loop (R .ready none)), gf,
    #[.func (.yield (w.heap.size + 1)) #[] #[]] ++ cap.toArray, (w.alloc (.deferred (some []))).alloc (.loop (R .ready none)), ?_, ?_, fun f' _ => by rw [hF]; trivial, ?_, fun h => by rw [hF] at h; simp [Fence.wide] at h, ?_⟩
  · rw [← hR0]
    exact run_enterLoop_outer _ _ _ _ _
  · simp only [resolve, ha.ev hg]
    simp [go_sem]
  · simp [invoke, go_sem, callFunc, hf, hb, hname]
  · rw [hF]
    have e : (Value.func (.yield (w.heap.size + 1)) #[] #[] :: cap).toArray = #[.func (.yield (w.heap.size + 1)) #[] #[]] ++ cap.toArray := by simp
    rw [e] at hcalls
    refine (callsIn_wide (n := 0 - 1)).2 (hcalls.mono ?_)
    · rintro e w3 ⟨r, D', rfl, hD', hown, hs3⟩
      have h8 := hpost D' w3 hown hs3
      rcases hD' with ⟨i, hfi, rfl⟩ | rfl
      · rw [hS] at h8
        obtain ⟨x, hpx, h9⟩ := exF_open (D := Cr ++ (objF w.heap.size (.deferred (some [])) :: E)) (by simpa using h8)
        obtain ⟨_, hl3, _⟩ := h9.head
        have hend := run_endLoop (P := X.P) hl3 (by rw [hR]; simp)
        have hpend : (R .ready none).pending = none := by rw [hR]
        have hend := hend.trans (congrArg (fun x => Result.ok x _) hpend)
        refine ⟨none, _, hend, ?_⟩
        have h10 := (h9.obj (.loop { R .ready none with state := .exhausted })).tail
        obtain ⟨ρ', hx, hok, hds, h11⟩ := SAT.reroot (h10.perm (show List.Perm (L x ++ (Cr ++ (objF w.heap.size (.deferred (some [])) :: E))) (objF w.heap.size (.deferred (some [])) :: ((L x ++ Cr) ++ E)) from by rw [← List.append_assoc]; exact List.perm_middle)) ha.ok
        rw [List.append_assoc] at h11
        exact ⟨ρ', t, L x ++ (Cr ++ E), hx, hok' ρ' hok hds, h11, hdone i x hfi hpx⟩
      · rw [hSx] at h8
        obtain ⟨y, hq, h9⟩ := exF_open (D := Cr ++ (objF w.heap.size (.deferred (some [])) :: E)) (by simpa using h8)
        obtain ⟨_, hl3, _⟩ := h9.head
        have hend := run_endLoop (P := X.P) hl3 (by rw [hR]; simp)
        have hpend : (R .done (some c)).pending = some c := by rw [hR]
        have hend := hend.trans (congrArg (fun x => Result.ok x _) hpend)
        refine ⟨some c, _, hend, ?_⟩
        have h10 := (h9.obj (.loop { R .done (some c) with state := .exhausted })).tail
        obtain ⟨ρ', hx, hok, hds, h11⟩ := SAT.reroot (h10.perm (show List.Perm (M y ++ (Cr ++ (objF w.heap.size (.deferred (some [])) :: E))) (objF w.heap.size (.deferred (some [])) :: ((M y ++ Cr) ++ E)) from by rw [← List.append_assoc]; exact List.perm_middle)) ha.ok
        rw [List.append_assoc] at h11
        have hgo := hstop y hq ρ' _ _ (hok' ρ' hok hds) h11
        rw [hF] at hgo
        exact wpIn_mono hgo (fun e a w hd => den_mono hx (fun _ _ _ hk => hk) hd)
end
end Go.Proofs.Ytlibhidhfbecbaa.SL

/- Rows of structs told one by one; segments of truths; maps of numbers by texts. -/
namespace Go.Proofs.Ytlibhidhfbecbaa.SL
set_option linter.unusedVariables false
set_option linter.unusedSimpArgs false
open Go
def recV {α : Type} (f : α → List Value) (l : List α) : List Value := l.flatMap f
section
variable {α : Type} {f : α → List Value} {s : Nat}
theorem recV_len (hf : ∀ a, (f a).length = s) : ∀ l : List α, (recV f l).length = l.length * s
  | [] => by simp [recV]
  | a :: l => by
    have h := recV_len hf l
    unfold recV at h ⊢
    rw [List.flatMap_cons, List.length_append, h, hf, List.length_cons, Nat.add_mul, Nat.one_mul, Nat.add_comm]
theorem recV_cut (hf : ∀ a, (f a).length = s) : ∀ {l : List α} {i : Nat} {r : α}, l[i]? = some r → ((recV f l).drop (i * s)).take s = f r
  | [], i, r, h => by simp at h
  | q :: l, 0, r, h => by
    simp only [List.getElem?_cons_zero, Option.some.injEq] at h
    subst h
    rw [recV, List.flatMap_cons, Nat.zero_mul, List.drop_zero, List.take_append_of_le_length (by rw [hf]; omega), List.take_of_length_le (by rw [hf]; omega)]
  | q :: l, i + 1, r, h => by
    rw [List.getElem?_cons_succ] at h
    have h2 := recV_cut hf h
    have e : (i + 1) * s = s + i * s := by rw [Nat.add_mul, Nat.one_mul, Nat.add_comm]
    rw [recV, List.flatMap_cons, e, ← List.drop_drop, List.drop_append_of_le_length (by rw [hf]; omega), List.drop_of_length_le (l := f q) (by rw [hf]; omega), List.nil_append]
    exact h2
theorem loadv_rec (hf : ∀ a, (f a).length = s) {U : Tab} {ty : TypeId} {l : List α} {i : Nat} {r : α} (hty : isRowTy U ty = some true) (hsz : look U.sz ty = some s) (h : l[i]? = some r) : loadv U ty (recV f l) (i * s) = some (.agg (f r).toArray) := by
  unfold loadv
  rw [hty, hsz]
  have hi := (List.getElem?_eq_some_iff.1 h).1
  have : Nat.ble (i * s + s) (recV f l).length = true := Nat.ble_eq_true_of_le (by
    rw [recV_len hf]
    have : (i + 1) * s ≤ l.length * s := Nat.mul_le_mul_right _ hi
    rw [Nat.add_mul, Nat.one_mul] at this
    exact this)
  simp only [this, recV_cut hf h]
section
variable {X : Cx} {U : Tab} (hU : U.OK X.P) {t : Env} {D : List Fact} {φ : Env → List Fact → Prop}
include hU
end
end
section
variable {X : Cx} {U : Tab} (hU : U.OK X.P) {t : Env} {D : List Fact} {φ : Env → List Fact → Prop}
include hU
theorem Step.lit_31 {d : Nat} {ty : TypeId} {x : Operand} (e by_ : Nat) (z u1 u2 u3 : Value) (hty : look U.und ty = some (.slice e)) (hti : look U.ti e = some (3, by_, z)) (hx : ev t x = some (.agg #[u1, u2, u3])) (hd : Nat.ble (d + 1) X.N = true)
    (k : ∀ b, φ (put t d (.slice (some ⟨b, 0, none⟩) 1 1)) (row e 3 (.slice (some ⟨b, 0, none⟩) 1 1) 1 [u1, u2, u3] :: D)) : Step X (some d) (.buildSlice ty 1 #[(0, x)]) t D φ := by
  intro o hdst hop ρ a w ha hw Q K hK
  obtain ⟨i, hi, h1, h2, h3⟩ := hU.ti _ (look_mem hti)
  simp only at hi h1 h2 h3
  have hund := hU.und _ (look_mem hty)
  simp only at hund
  have hfill : ∀ cells : Array Value, cells.size = 3 → Instr.fill (fun i => some (i * 3, 3)) cells [(0, .agg #[u1, u2, u3])] = some #[u1, u2, u3] := by
    rintro ⟨l⟩ hc
    match l, hc with
    | [p, q, r], _ => simp [Instr.fill, Value.cells]
  have hr : (execOp a.eval o).run X.P w = .ok (.value (.slice (some ⟨w.heap.size, 0, none⟩) 1 1)) (w.alloc (.cells #[u1, u2, u3] e (0, 0))) := by
    unfold execOp
    simp only [hop, Instr.buildSlice, Sem.run_bind, run_underlying hund, Result.andThen_ok, sizeOf, typeInfo, run_program, hi, h1, Sem.run_pure, Sem.run_ite, zeroValue, h3]
    have e1 : (Array.map (fun p : Nat × Operand => (p.1, a.eval p.2)) #[(0, x)]).toList = [(0, .agg #[u1, u2, u3])] := by simp [ha.ev hx]
    rw [e1]
    simp [newRow]
    rw [hfill _ (by simp)]
    simp
  have hs := hw.alloc _ (blk w.heap.size e [u1, u2, u3]) rfl (blk_new w e _)
  have hs2 := SAT.row_of_blk (s := 3) (n := 1) (cap := 1) hs (Nat.le_refl _) (by simp only [maxLen]; omega) (by simp)
  rw [List.take_of_length_le (by simp)] at hs2
  refine wp_val hr (hK _ _ _ _ ?_ hs2 (k w.heap.size))
  rw [hdst]
  exact ha.put (Nat.le_of_ble_eq_true hd) _
theorem Step.lit_32 {d : Nat} {ty : TypeId} {x y : Operand} (e by_ : Nat) (z u1 u2 u3 v1 v2 v3 : Value) (hty : look U.und ty = some (.slice e)) (hti : look U.ti e = some (3, by_, z)) (hx : ev t x = some (.agg #[u1, u2, u3])) (hy : ev t y = some (.agg #[v1, v2, v3])) (hd : Nat.ble (d + 1) X.N = true)
    (k : ∀ b, φ (put t d (.slice (some ⟨b, 0, none⟩) 2 2)) (row e 3 (.slice (some ⟨b, 0, none⟩) 2 2) 2 [u1, u2, u3, v1, v2, v3] :: D)) : Step X (some d) (.buildSlice ty 2 #[(0, x), (1, y)]) t D φ := by
  intro o hdst hop ρ a w ha hw Q K hK
  obtain ⟨i, hi, h1, h2, h3⟩ := hU.ti _ (look_mem hti)
  simp only at hi h1 h2 h3
  have hund := hU.und _ (look_mem hty)
  simp only at hund
  have hfill : ∀ cells : Array Value, cells.size = 6 → Instr.fill (fun i => some (i * 3, 3)) cells [(0, .agg #[u1, u2, u3]), (1, .agg #[v1, v2, v3])] = some #[u1, u2, u3, v1, v2, v3] := by
    rintro ⟨l⟩ hc
    match l, hc with
    | [_, _, _, _, _, _], _ => simp [Instr.fill, Value.cells]
  have hr : (execOp a.eval o).run X.P w = .ok (.value (.slice (some ⟨w.heap.size, 0, none⟩) 2 2)) (w.alloc (.cells #[u1, u2, u3, v1, v2, v3] e (0, 0))) := by
    unfold execOp
    simp only [hop, Instr.buildSlice, Sem.run_bind, run_underlying hund, Result.andThen_ok, sizeOf, typeInfo, run_program, hi, h1, Sem.run_pure, Sem.run_ite, zeroValue, h3]
    have e1 : (Array.map (fun p : Nat × Operand => (p.1, a.eval p.2)) #[(0, x), (1, y)]).toList = [(0, .agg #[u1, u2, u3]), (1, .agg #[v1, v2, v3])] := by simp [ha.ev hx, ha.ev hy]
    rw [e1]
    simp [newRow]
    rw [hfill _ (by simp)]
    simp
  have hs := hw.alloc _ (blk w.heap.size e [u1, u2, u3, v1, v2, v3]) rfl (blk_new w e _)
  have hs2 := SAT.row_of_blk (s := 3) (n := 2) (cap := 2) hs (Nat.le_refl _) (by simp only [maxLen]; omega) (by simp)
  rw [List.take_of_length_le (by simp)] at hs2
  refine wp_val hr (hK _ _ _ _ ?_ hs2 (k w.heap.size))
  rw [hdst]
  exact ha.put (Nat.le_of_ble_eq_true hd) _
end
abbrev Fc := ByteArray × Bool × Ro
def fcC (r : Fc) : List Value := [.string r.1, .slice r.2.2.1 r.2.2.2.2.length r.2.2.2.1, .bool r.2.1]
theorem fcC_len (r : Fc) : (fcC r).length = 3 := rfl
def fcR (l : List Fc) : List Ro := l.map fun r => r.2.2
theorem fcV_len (l : List Fc) : (recV fcC l).length = l.length * 3 := recV_len fcC_len l
theorem fc_at {l : List Fc} (h : RowsOK .u8 (fcR l)) {i : Nat} (hi : i < l.length) : ∃ (nm : ByteArray) (g : Bool) (A : Option Addr) (c : Nat) (x : List Int), l[i]? = some (nm, g, A, c, x) ∧ In .u8 x ∧ x.length ≤ c ∧ x.length ≤ 140737488351232 :=
  ⟨_, _, _, _, _, List.getElem?_eq_getElem hi, h _ (List.mem_map.2 ⟨_, List.getElem_mem hi, rfl⟩)⟩
section
variable {k : IntKind} {i : Nat} {nm : ByteArray} {g : Bool} {A : Option Addr} {c : Nat} {x : List Int}
theorem fcR_mem {l : List Fc} (h : l[i]? = some (nm, g, A, c, x)) : (A, c, x) ∈ fcR l := List.mem_map.2 ⟨_, List.mem_of_getElem? h, rfl⟩
theorem tells_fcL {l : List Fc} (h : l[i]? = some (nm, g, A, c, x)) : Tells (vws (rowsL k (fcR l))) A (nums k x) := tells_vws (L := rowsL k (fcR l)) (List.mem_map.2 ⟨(A, c, x), fcR_mem h, rfl⟩)
end
theorem Put.nthb {xs : List Bool} {i p : Nat} {v : Bool} (hi : i < xs.length) (hp : p = i) : Put (bls xs) p [.bool v] (bls (xs.set i v)) := by
  subst hp
  refine ⟨?_, by simp only [List.length_singleton, bls_len]; omega⟩
  rw [bls_set, List.set_eq_take_append_cons_drop, if_pos (by rw [bls_len]; exact hi)]
  simp [wr]
abbrev Im := ByteArray × Int × Nat
def imM (e : Im) : Me := (e.1, .int .i64 e.2.1, e.2.2)
def iget (L : List Im) (k : ByteArray) : Int := ((L.find? fun e => decide (k = e.1)).map (·.2.1)).getD 0
theorem mget_im (L : List Im) (k : ByteArray) : (mget (L.map imM) k).getD (.int .i64 0) = .int .i64 (iget L k) := by
  unfold iget
  have h : mget (L.map imM) k = (L.find? fun e => decide (k = e.1)).map fun e => .int .i64 e.2.1 := by
    induction L with
    | nil => rfl
    | cons e L ih =>
      rw [List.map_cons, mget_cons, ih]
      by_cases h : k = e.1
      · rw [if_pos (show k = (imM e).1 from h), List.find?_cons_of_pos (by simpa using h)]; rfl
      · rw [if_neg (show ¬ k = (imM e).1 from h), List.find?_cons_of_neg (by simpa using h)]
  rw [h]
  cases L.find? fun e => decide (k = e.1) <;> rfl
def ihas (L : List Im) (k : ByteArray) : Bool := (L.find? fun e => decide (k = e.1)).isSome
def iput (L : List Im) (c : Nat) (k : ByteArray) (v : Int) : List Im := if ihas L k then L.map (fun e => if e.1 = k then (e.1, v, e.2.2) else e) else L ++ [(k, v, c)]
def iclock (L : List Im) (c : Nat) (k : ByteArray) : Nat := if ihas L k then c else c + 1
theorem ihas_is (L : List Im) (k : ByteArray) : (mget (L.map imM) k).isSome = ihas L k := by
  unfold ihas
  induction L with
  | nil => rfl
  | cons e L ih =>
    rw [List.map_cons, mget_cons]
    by_cases h : k = e.1
    · rw [if_pos (show k = (imM e).1 from h), List.find?_cons_of_pos (by simpa using h)]; rfl
    · rw [if_neg (show ¬ k = (imM e).1 from h), List.find?_cons_of_neg (by simpa using h), ih]
theorem mput_im {L : List Im} {c : Nat} {k : ByteArray} {v : Int} (h : ((L.map imM).map (·.1)).Nodup) : mput (L.map imM) c k (.int .i64 v) = (iput L c k v).map imM := by
  unfold iput
  have hg := ihas_is L k
  cases hh : ihas L k with
  | true =>
    rw [mput_old h (by rw [hg, hh]), if_pos rfl, List.map_map, List.map_map]
    refine List.map_congr_left fun x _ => ?_
    simp only [Function.comp]
    by_cases hx : x.1 = k
    · rw [if_pos (show (imM x).1 = k from hx), if_pos hx]; rfl
    · rw [if_neg (show ¬ (imM x).1 = k from hx), if_neg hx]
  | false =>
    rw [hh] at hg
    rw [mput_new (by cases h2 : mget (L.map imM) k with | none => rfl | some v => rw [h2] at hg; cases hg)]
    simp only [Bool.false_eq_true, if_false, List.map_append, List.map_cons, List.map_nil]
    rfl
def IMOK (L : List Im) (c : Nat) : Prop := MOK (L.map imM) c
theorem IMOK.nil : IMOK [] 0 := MOK.nil
theorem IMOK.put {L : List Im} {c : Nat} (h : IMOK L c) (k : ByteArray) (v : Int) : IMOK (iput L c k v) (iclock L c k) := by
  have h1 := MOK.put h k (.int .i64 v)
  rw [mput_im h.keys] at h1
  unfold IMOK iclock
  unfold mclock at h1
  rw [ihas_is] at h1
  exact h1
theorem iget_put {L : List Im} {c : Nat} {k : ByteArray} {v : Int} (h : IMOK L c) (k2 : ByteArray) : iget (iput L c k v) k2 = if k2 = k then v else iget L k2 := by
  have h1 := mget_im (iput L c k v) k2
  rw [← mput_im h.keys, mput_get h.keys] at h1
  split at h1
  · rename_i he
    rw [if_pos he]
    simpa using h1.symm
  · rename_i he
    rw [if_neg he]
    rw [mget_im] at h1
    simpa using h1.symm
section
variable {X : Cx} {U : Tab} (hU : U.OK X.P) {t : Env} {D : List Fact} {φ : Env → List Fact → Prop}
include hU
theorem Step.lookupI {d : Nat} {xT : TypeId} {x y : Operand} (k0 : Nat) (kt et b c by_ : Nat) (L : List Im) (s : ByteArray) (hty : look U.und xT = some (.map kt et)) (hkt : look U.und kt = some .string) (hti : look U.ti et = some (1, by_, .int .i64 0))
    (hx : ev t x = some (.map (some b))) (hy : ev t y = some (.string s)) (hD : D[k0]? = some (mpf b (L.map imM) c)) (hd : Nat.ble (d + 1) X.N = true)
    (k : φ (put t d (.int .i64 (iget L s))) D) : Step X (some d) (.lookup xT x y false) t D φ := by
  refine Step.lookup (ok := false) hU k0 kt et b c 1 by_ _ (L.map imM) s hty hkt hti hx hy hD hd ?_
  rw [if_neg (by decide), mget_im]
  exact k
theorem Step.updateI {xT : TypeId} {x y z : Operand} (k0 : Nat) (kt et b c : Nat) (L : List Im) (s : ByteArray) (v : Int) (hty : look U.und xT = some (.map kt et)) (hkt : look U.und kt = some .string)
    (hx : ev t x = some (.map (some b))) (hy : ev t y = some (.string s)) (hz : ev t z = some (.int .i64 v)) (hD : D[k0]? = some (mpf b (L.map imM) c)) (hM : IMOK L c)
    (k : φ t (mpf b ((iput L c s v).map imM) (iclock L c s) :: D.eraseIdx k0)) : Step X none (.mapUpdate xT x y z) t D φ := by
  refine Step.mapUpdate (ins := false) hU k0 kt et b c (L.map imM) s _ hty hkt hx hy hz hD ?_
  rw [mput_im hM.keys]
  have : mclock (L.map imM) c s = iclock L c s := by unfold mclock iclock; rw [ihas_is]
  rw [this]
  exact k
end
end Go.Proofs.Ytlibhidhfbecbaa.SL

/- A map of whatever is cloned. -/
namespace Go.Proofs.Ytlibhidhfbecbaa.SL
set_option linter.unusedVariables false
set_option linter.unusedSimpArgs false
open Go Go.Proofs Go.Shelf
theorem clone_map {P : Program} {ρ : Ren} (Ly : SlLaysW.n5 P ρ) (b c : Nat) (L : List Me) (hf : ∃ fn c, P.funcs[ρ.f 5]? = some fn ∧ fn.body = some c ∧ fn.name ≠ "runtime.NumGoroutine") :
    CallsS P (ρ.f 5) [.map (some b)] [mpf b L c] (fun r D' => ∃ m, r = .map (some m) ∧ D' = [mpf m L c, mpf b L c]) := by
  refine ⟨hf, fun w W hs => ?_⟩
  obtain ⟨fp, hb, _⟩ := hs.head
  refine (AnyW.maps_Clone Ly b (L.map meE).toArray c w hb).mono ?_
  rintro e w' ⟨rfl, rfl⟩
  refine ⟨_, _, rfl, ⟨w.heap.size, rfl, rfl⟩, fun f hf => ?_, hs.alloc (.map (L.map meE).toArray c) (mpf w.heap.size L c) rfl ⟨heap_alloc_new w _, fun _ => Iff.rfl⟩⟩
  rcases List.mem_cons.1 hf with rfl | hf
  · rfl
  · rw [List.mem_singleton.1 hf]; rfl
end Go.Proofs.Ytlibhidhfbecbaa.SL

/- Rows that are owned apart, as many as there are: one is taken out, written, and given back. -/
namespace Go.Proofs.Ytlibhidhfbecbaa.SL
set_option linter.unusedVariables false
set_option linter.unusedSimpArgs false
open Go
theorem sat_joinS : ∀ {fs D : List Fact} {w : World} {O fp R R' : FP}, (∀ f ∈ fs, f.own = true) → sat fs w fp R' → (∀ b, fp b → O b) → sat D w (fun b => O b ∧ ¬ fp b) R → sat (fs ++ D) w O R
  | [], D, w, O, fp, R, R', _, _, _, h => sat_mono h (fun _ hb => hb.1) (fun _ hb => hb)
  | f :: fs, D, w, O, fp, R, R', ho, hs, hf, h => by
    obtain ⟨g, hg, h1⟩ := hs
    rw [ho f List.mem_cons_self] at h1
    have h1 : (∀ b, g b → fp b) ∧ sat fs w (fun b => fp b ∧ ¬ g b) R' := h1
    refine ⟨g, hg, ?_⟩
    rw [ho f List.mem_cons_self]
    exact ⟨fun b hb => hf b (h1.1 b hb), sat_joinS (fp := fun b => fp b ∧ ¬ g b) (fun x hx => ho x (List.mem_cons_of_mem _ hx)) h1.2 (fun b hb => ⟨hf b hb.1, hb.2⟩) (sat_mono h (fun b hb => ⟨⟨hb.1, fun e => hb.2 (h1.1 b e)⟩, fun e => hb.2 e.1⟩) (fun _ hb => hb))⟩
theorem sat_ownR : ∀ {fs : List Fact} {w : World} {O R R' : FP}, (∀ f ∈ fs, f.own = true) → sat fs w O R → sat fs w O R'
  | [], _, _, _, _, _, _ => trivial
  | f :: fs, w, O, R, R', ho, ⟨g, hg, h1⟩ => by
    rw [ho f List.mem_cons_self] at h1
    refine ⟨g, hg, ?_⟩
    rw [ho f List.mem_cons_self]
    exact ⟨h1.1, sat_ownR (fun x hx => ho x (List.mem_cons_of_mem _ hx)) h1.2⟩
def sepF (fs : List Fact) : Fact where
  own := true
  P w fp := sat fs w fp (fun _ => False) ∧ ∀ b, fp b → b < w.heap.size
  loc h hl := ⟨sat_loc h.1 (fun b hb => hl b (hb.elim id (fun h => h.elim))), fun b hb => lt_of_heap (h.2 b hb) (hl b hb)⟩
  bnd h b hb := h.2 b hb
section
variable {w0 : World} {W : FP} {D fs : List Fact} {w : World}
theorem SAT.sepOpen (ho : ∀ f ∈ fs, f.own = true) (h : SAT w0 W (sepF fs :: D) w) : SAT w0 W (fs ++ D) w := by
  obtain ⟨fr, O, R, ⟨fp, ⟨hs, _⟩, h1⟩, h2, h3, h4⟩ := h
  have h1 : (∀ b, fp b → O b) ∧ sat D w (fun b => O b ∧ ¬ fp b) R := h1
  exact ⟨fr, O, R, sat_joinS ho hs h1.1 h1.2, h2, h3, h4⟩
theorem SAT.sepClose (ho : ∀ f ∈ fs, f.own = true) (h : SAT w0 W (fs ++ D) w) : SAT w0 W (sepF fs :: D) w := by
  obtain ⟨fr, O, R, h1, h2, h3, h4⟩ := h
  obtain ⟨O1, h5, h6, h7⟩ := sat_append h1
  exact ⟨fr, O, R, ⟨O1, ⟨sat_ownR ho h6, fun b hb => h4 b (.inl (h5 b hb))⟩, ⟨h5, h7⟩⟩, h2, h3, h4⟩
end
theorem erase_map {α β : Type} (f : α → β) (l : List α) (i : Nat) : (l.map f).eraseIdx i = (l.eraseIdx i).map f := by
  rw [List.eraseIdx_eq_take_drop_succ, List.eraseIdx_eq_take_drop_succ, List.map_append, List.map_take, List.map_drop]
def rowF (k : IntKind) (T : TypeId) (r : Ro) : Fact := row T 1 (.slice r.1 r.2.2.length r.2.1) r.2.2.length (nums k r.2.2)
def sepR (k : IntKind) (T : TypeId) (xs : List Ro) : Fact := sepF (xs.map (rowF k T))
theorem sepR_own {k : IntKind} {T : TypeId} {xs : List Ro} : ∀ f ∈ xs.map (rowF k T), f.own = true := fun f hf => by
  obtain ⟨r, _, rfl⟩ := List.mem_map.1 hf
  rfl
section
variable {w0 : World} {W : FP} {D : List Fact} {w : World} {k : IntKind} {T : TypeId} {xs : List Ro}
theorem SAT.sepNil (k : IntKind) (T : TypeId) (h : SAT w0 W D w) : SAT w0 W (sepR k T [] :: D) w := h.sepClose (fs := []) (fun _ h => by cases h)
theorem SAT.sepPush {A : Option Addr} {n c : Nat} {x : List Int} (hn : x.length = n) (h : SAT w0 W (row T 1 (.slice A n c) n (nums k x) :: sepR k T xs :: D) w) : SAT w0 W (sepR k T (xs ++ [(A, c, x)]) :: D) w := by
  subst hn
  have h1 := (h.perm (List.Perm.swap _ _ _)).sepOpen sepR_own
  refine SAT.sepClose sepR_own ?_
  rw [List.map_append]
  refine h1.perm ?_
  rw [List.append_assoc]
  exact List.Perm.refl _
theorem SAT.sepTake {i : Nat} {A : Option Addr} {c : Nat} {x : List Int} (hg : xs[i]? = some (A, c, x)) (h : SAT w0 W (sepR k T xs :: D) w) : SAT w0 W (row T 1 (.slice A x.length c) x.length (nums k x) :: sepR k T (xs.eraseIdx i) :: D) w := by
  have h1 := h.sepOpen sepR_own
  have hp : (xs.map (rowF k T)).Perm (rowF k T (A, c, x) :: (xs.eraseIdx i).map (rowF k T)) := by
    have := (perm_pull (D := xs.map (rowF k T)) (k := i) (f := rowF k T (A, c, x)) (by rw [List.getElem?_map, hg]; rfl))
    rwa [erase_map] at this
  have h2 := h1.perm (hp.append_right D)
  have h3 : SAT w0 W ((xs.eraseIdx i).map (rowF k T) ++ (rowF k T (A, c, x) :: D)) w := h2.perm List.perm_middle.symm
  exact (h3.sepClose sepR_own).perm (List.Perm.swap _ _ _)
theorem SAT.sepGive {i n : Nat} {A : Option Addr} {c : Nat} {x : List Int} (hn : x.length = n) (hi : i < xs.length) (h : SAT w0 W (row T 1 (.slice A n c) n (nums k x) :: sepR k T (xs.eraseIdx i) :: D) w) : SAT w0 W (sepR k T (xs.set i (A, c, x)) :: D) w := by
  subst hn
  have h1 := (h.perm (List.Perm.swap _ _ _)).sepOpen sepR_own
  refine SAT.sepClose sepR_own (h1.perm ?_)
  have hp := (perm_pull (D := (xs.set i (A, c, x)).map (rowF k T)) (k := i) (f := rowF k T (A, c, x)) (by rw [List.getElem?_map, List.getElem?_set_self hi]; rfl))
  have e : ((xs.set i (A, c, x)).map (rowF k T)).eraseIdx i = (xs.eraseIdx i).map (rowF k T) := by
    rw [erase_map, List.eraseIdx_set_eq]
  rw [e] at hp
  exact List.perm_middle.trans (hp.symm.append_right D)
theorem SAT.sepPool : ∀ {xs : List Ro} {D : List Fact}, SAT w0 W (sepR k T xs :: D) w → SAT w0 W (rws k xs :: D) w
  | [], D, h => (h.tail).rws0 k
  | r :: xs, D, h => by
    have h1 := h.sepTake (i := 0) (A := r.1) (c := r.2.1) (x := r.2.2) rfl
    have h2 := (h1.perm (List.Perm.swap _ _ _)).sepPool
    exact SAT.rwsPush (f := row T 1 (.slice r.1 r.2.2.length r.2.1) r.2.2.length (nums k r.2.2)) r.1 r.2.1 r.2.2 rfl (tells_row _ _ _ _ _ _) (h2.perm (List.Perm.swap _ _ _))
end
theorem sep_some {w0 : World} {W : FP} {D : List Fact} {w : World} {k : IntKind} {T : TypeId} {xs : List Ro} {i : Nat} {A : Option Addr} {c : Nat} {x : List Int} (h : SAT w0 W D w) (j : Nat) (hj : D[j]? = some (sepR k T xs)) (hg : xs[i]? = some (A, c, x)) : 0 < x.length → Option.isSome A = true := fun h0 => by
  have h1 := (h.pull hj).sepTake hg
  obtain ⟨fp, hp⟩ := h1.head
  rcases hp.2.2 with ⟨_, h4⟩ | ⟨b, cp, ex, h4, _⟩
  · omega
  · injection h4 with h5
    rw [h5]
    rfl
theorem rowsV_same {xs : List Ro} {i : Nat} {A : Option Addr} {c : Nat} {x y : List Int} (hg : xs[i]? = some (A, c, x)) (hl : y.length = x.length) : rowsV (xs.set i (A, c, y)) = rowsV xs := by
  unfold rowsV
  rw [List.map_set]
  apply List.ext_getElem?
  intro j
  by_cases h : i = j
  · subst h
    have hi := (List.getElem?_eq_some_iff.1 hg).1
    rw [List.getElem?_set_self (by rw [List.length_map]; exact hi), List.getElem?_map, hg, Option.map_some, hl]
  · rw [List.getElem?_set_ne h]
section
variable {X : Cx} {U : Tab} (hU : U.OK X.P) {t : Env} {D : List Fact} {φ : Env → List Fact → Prop}
include hU
theorem Step.make_rows {d : Nat} {ty : TypeId} {x y : Operand} (e by_ : Nat) (kl kc : IntKind) (l : Int) (hty : look U.und ty = some (.slice e)) (hti : look U.ti e = some (1, by_, .slice none 0 0)) (hx : ev t x = some (.int kl l)) (hy : ev t y = some (.int kc l))
    (hl : 0 ≤ l ∧ l ≤ 140737488355328) (hb : (by_ : Int) * l ≤ 281474976710656) (hd : Nat.ble (d + 1) X.N = true)
    (k : ∀ b, φ (put t d (.slice (some ⟨b, 0, none⟩) l.toNat l.toNat)) (row e 1 (.slice (some ⟨b, 0, none⟩) l.toNat l.toNat) l.toNat (rowsV (List.replicate l.toNat (none, 0, []))) :: D)) : Step X (some d) (.makeSlice ty x y) t D φ := by
  refine Step.after (Step.make hU e 1 by_ (.slice none 0 0) kl kc l l hty hti hx hy hl.1 (by omega) hb (by omega) hd (fun b => ?_))
  have e1 : (madeCells (Value.slice none 0 0).cells (l.toNat * 1)).toList = rowsV (List.replicate l.toNat (none, 0, [])) := by
    rw [show (Value.slice none 0 0).cells = #[Value.slice none 0 0] from rfl, Nat.mul_one, toList_madeCells_one, rowsV, List.map_replicate]
    rfl
  rw [e1]
  refine ⟨_, fun _ _ w hs => ?_, k b⟩
  have := SAT.row_of_blk (s := 1) (n := l.toNat) (cap := l.toNat) hs (Nat.le_refl _) (by simp only [maxLen]; omega) (by simp [rowsV_len])
  rwa [List.take_of_length_le (by simp [rowsV_len])] at this
end
end Go.Proofs.Ytlibhidhfbecbaa.SL

/- Windows of rows; a text copied into one. -/
namespace Go.Proofs.Ytlibhidhfbecbaa.SL
set_option linter.unusedVariables false
set_option linter.unusedSimpArgs false
open Go
def offB (A : Option Addr) (l : Nat) : Option Addr := A.map (·.add l)
theorem addr_add (a : Addr) (i j : Nat) (h : a.off = 0 → True) : (a.add i).add j = a.add (i + j) := by
  unfold Addr.add
  by_cases h1 : i = 0 <;> by_cases h2 : j = 0
  all_goals (simp_all <;> try omega)
theorem sub_off {A : Option Addr} {l m : Nat} (h : m ≠ l) : subBase A l m 1 = offB A l := by
  unfold subBase offB
  rw [if_neg h]
  simp only [Nat.mul_one]
theorem off_sub {A : Option Addr} {l l' m' : Nat} (h' : m' ≠ l') : subBase (offB A l) l' m' 1 = offB A (l + l') := by
  unfold subBase offB
  rw [if_neg h', Option.map_map]
  congr 1
  funext a
  simp only [Function.comp, Nat.mul_one]
  exact addr_add a l l' (fun _ => trivial)
theorem off_elem {A : Option Addr} {l : Nat} {i : Int} (h : 0 ≤ i) : elemAt (offB A l) i 1 = elemAt A ((l : Int) + i) 1 := by
  unfold elemAt offB
  rw [Option.map_map]
  congr 1
  funext a
  simp only [Function.comp, Nat.mul_one]
  rw [addr_add a l i.toNat (fun _ => trivial)]
  congr 1
  omega
theorem off_at {A : Option Addr} {l : Nat} {b : Nat} (h : A = some ⟨b, 0, none⟩) : offB A l = some ⟨b, l, none⟩ := by
  subst h
  unfold offB Addr.add
  simp only [Option.map_some]
  split
  · rename_i h; subst h; rfl
  · simp
theorem off_some {A : Option Addr} {l : Nat} (h : Option.isSome A = true) : Option.isSome (offB A l) = true := by
  unfold offB
  rw [Option.isSome_map]
  exact h
section
variable {X : Cx} {U : Tab} (hU : U.OK X.P) {t : Env} {D : List Fact} {φ : Env → List Fact → Prop}
include hU
theorem Step.copy_row_str {d : Option Nat} {tx ty : TypeId} {x y : Operand} (e k0 l n cap nd cd : Nat) (B Ad : Option Addr) (xs : List Int) (s : ByteArray)
    (hty : look U.und tx = some (.slice e)) (hsz : look U.sz e = some 1) (hx : ev t x = some (.slice Ad nd cd)) (hAd : 0 < nd → ∀ b, B = some ⟨b, 0, none⟩ → Ad = some ⟨b, l, none⟩) (hy : ev t y = some (.string s))
    (hD : D[k0]? = some (row e 1 (.slice B n cap) n (nums .u8 xs))) (hle : s.size ≤ nd) (hl : l + nd ≤ n) (hd : (d.map fun d => Nat.ble (d + 1) X.N).getD true = true)
    (k : φ (putO t d (.int .i64 ((s.size : Nat) : Int))) (row e 1 (.slice B n cap) n (nums .u8 (putl xs l (sb s))) :: D.eraseIdx k0)) : Step X d (.call { callee := .builtin .copy, args := #[x, y], argTypes := #[tx, ty] }) t D φ := by
  have hu := hU.und _ (look_mem hty)
  simp only at hu
  have hi := info_one hU (X := X) hsz
  refine Step.copy_run e s.size _ _ _ hx hy (fun w0 W w to hw => ?_) hd k
  have hw' := hw.pull hD
  have hbs : Go.Lib.byteCells s.data.toList = nums .u8 (sb s) := by
    rw [nums, sb, List.map_map]; rfl
  by_cases h0 : s.size = 0
  · refine ⟨w, ?_, ?_⟩
    · rw [h0]
      exact Go.Lib.run_copy_empty_string w tx ty to e Ad nd cd s hu (by cases hq : X.P.info? e with | none => rw [hq] at hi; simp at hi | some i => simp) h0
    · have e1 : sb s = [] := List.eq_nil_of_length_eq_zero (by rw [sb_len, h0])
      rw [e1, putl]
      simpa using hw'
  · obtain ⟨b, ex, rfl, hh, hn, hset⟩ := row_write hw' (by omega)
    obtain rfl := hAd (by omega) b rfl
    have hxl := row_len hw'
    have hrun := Go.Lib.run_copy_row_string (P := X.P) w tx ty to e b l nd cd s (nums .u8 xs ++ ex).toArray e hu hi hh hle (by
      simp only [List.size_toArray, List.length_append]
      have := hxl.1
      omega)
    refine ⟨_, ?_, hset l (sb s) (by rw [sb_len]; omega)⟩
    rw [hrun, hbs]
    congr 2
    rw [nums_length, sb_len]
end
end Go.Proofs.Ytlibhidhfbecbaa.SL

/- append(nil, make([][]T, n)...): room for rows. -/
namespace Go.Proofs.Ytlibhidhfbecbaa.SL
set_option linter.unusedVariables false
set_option linter.unusedSimpArgs false
open Go
theorem zc_slice (M : Nat) : Builtin.zeroCells (Value.slice none 0 0).cells M = (List.replicate M (Value.slice none 0 0)).toArray := by
  apply Array.ext'
  simp only [Builtin.zeroCells]
  apply List.ext_getElem
  · simp [Value.cells]
  · intro i h1 h2
    simp [Nat.mod_one, Value.cells]
theorem SAT.rwsJoin {w0 : World} {W : FP} {D : List Fact} {w : World} {k : IntKind} {a b : List Ro} (h : SAT w0 W (rws k a :: rws k b :: D) w) : SAT w0 W (rws k (a ++ b) :: D) w := by
  obtain ⟨fr, O, R, ⟨fp, hp, h1⟩, h2, h3, h4⟩ := h
  obtain ⟨ho, gp, hg, h5⟩ : (∀ b, fp b → O b) ∧ sat (rws k b :: D) w (fun b => O b ∧ ¬ fp b) R := h1
  have h5 : (∀ b, gp b → O b ∧ ¬ fp b) ∧ sat D w (fun b => (O b ∧ ¬ fp b) ∧ ¬ gp b) R := h5
  refine ⟨fr, O, R, ⟨fun b => fp b ∨ gp b, ⟨fun b hb => hb.elim (hp.1 b) (hg.1 b), fun r hr h0 => ?_⟩, fun b hb => hb.elim (ho b) (fun h => (h5.1 b h).1), sat_mono h5.2 (fun b hb => ⟨hb.1.1, fun h => h.elim hb.1.2 hb.2⟩) (fun _ h => h)⟩, h2, h3, h4⟩
  obtain ⟨q, hq, rfl⟩ := List.mem_map.1 hr
  rcases List.mem_append.1 hq with hq | hq
  · obtain ⟨a', e1, e2, e3⟩ := hp.2 _ (List.mem_map.2 ⟨q, hq, rfl⟩) h0
    exact ⟨a', e1, .inl e2, e3⟩
  · obtain ⟨a', e1, e2, e3⟩ := hg.2 _ (List.mem_map.2 ⟨q, hq, rfl⟩) h0
    exact ⟨a', e1, .inr e2, e3⟩
theorem SAT.rwsJoinE {w0 : World} {W : FP} {D : List Fact} {w : World} {k : IntKind} {a b z : List Ro} (hz : z = a ++ b) (h : SAT w0 W (rws k a :: rws k b :: D) w) : SAT w0 W (rws k z :: D) w := by
  subst hz; exact h.rwsJoin
theorem joined_ok {k : IntKind} {a b z : List Ro} (hz : z = a ++ b) (ha : RowsOK k a) (hb : RowsOK k b) : RowsOK k z := fun r hr => by
  subst hz
  exact (List.mem_append.1 hr).elim (ha r) (hb r)
theorem SAT.rwsChd {w0 : World} {W : FP} {D : List Fact} {w : World} {k : IntKind} {G : List Ro} {ws : List Ch} (h : SAT w0 W (rws k G :: D) w) (hs : ∀ r ∈ ws, r.2 ∈ G) : SAT w0 W (chd k ws :: D) w :=
  SAT.rwsSub h _ (fun r hr => by obtain ⟨q, hq, rfl⟩ := List.mem_map.1 hr; exact hs q hq)
section
variable {X : Cx} {U : Tab} (hU : U.OK X.P) {t : Env} {D : List Fact} {φ : Env → List Fact → Prop}
include hU
theorem Step.append_nil_rows {d : Nat} {ty tn : TypeId} {x y : Operand} (e by_ : Nat) (kn ki : IntKind) (m : Int)
    (hty : look U.und ty = some (.slice e)) (htn : look U.und tn = some (.int kn)) (hti : look U.ti e = some (1, by_, .slice none 0 0))
    (hx : ev t x = some (.slice none 0 0)) (hy : ev t y = some (.int ki m)) (h0 : 1 ≤ m) (hm : m ≤ 1000000000) (hb : by_ ≤ 1000) (hd : Nat.ble (d + 1) X.N = true)
    (k : ∀ B' cap', B'.isSome = true → φ (put t d (.slice B' m.toNat cap')) (row e 1 (.slice B' 0 cap') 0 (rowsV []) :: D)) :
    Step X (some d) (.call { callee := .builtin .append, args := #[x, y], argTypes := #[ty, tn] }) t D φ := by
  obtain ⟨M, rfl⟩ := Int.eq_ofNat_of_zero_le (show 0 ≤ m by omega)
  simp only [Int.toNat_natCast] at k
  intro o hdst hop ρ a w ha hw Q K hK
  obtain ⟨i, hi, h1', h2', h3⟩ := hU.ti _ (look_mem hti)
  simp only at hi h1' h2' h3
  subst h2'
  have hbM : M * i.bytes ≤ 140737488355328 := Nat.le_trans (Nat.mul_le_mul (show M ≤ 1000000000 by omega) hb) (by decide)
  have ht := hU.und _ (look_mem hty)
  have htn' := hU.und _ (look_mem htn)
  simp only at ht htn'
  have hr := Go.Lib.run_append_nil_zeros (P := X.P) w ty tn o.type e i (.slice none 0 0) ki kn ht htn' hi h3 M (by omega) (by omega) (by omega) (by omega)
  have hge := grownCap_ge w M 0 e
  have hcm := grownCap_le_maxLen w M 0 e (by simp only [maxLen]; omega)
  have hsat : SAT ρ.w0 ρ.W (row e 1 (.slice (some ⟨w.heap.size, 0, none⟩) 0 (grownCap w M 0 e)) 0 (rowsV []) :: D) (w.drew.alloc (.cells (Builtin.zeroCells (Value.slice none 0 0).cells M ++ Builtin.zeroCells (Value.slice none 0 0).cells (grownCap w M 0 e - M)) e)) := by
    have hs := hw.drew.alloc (.cells (Builtin.zeroCells (Value.slice none 0 0).cells M ++ Builtin.zeroCells (Value.slice none 0 0).cells (grownCap w M 0 e - M)) e)
      (blk w.drew.heap.size e (List.replicate M (Value.slice none 0 0) ++ List.replicate (grownCap w M 0 e - M) (Value.slice none 0 0))) rfl (by
        have e1 : (Builtin.zeroCells (Value.slice none 0 0).cells M ++ Builtin.zeroCells (Value.slice none 0 0).cells (grownCap w M 0 e - M)) = (List.replicate M (Value.slice none 0 0) ++ List.replicate (grownCap w M 0 e - M) (Value.slice none 0 0)).toArray := by
          rw [zc_slice, zc_slice]; simp
        rw [e1]
        exact blk_new w.drew e _)
    have h4 := SAT.row_of_blk (s := 1) (n := 0) (cap := grownCap w M 0 e) hs (Nat.zero_le _) hcm (by rw [List.length_append, List.length_replicate, List.length_replicate]; omega)
    simpa [rowsV] using h4
  have hr2 : (execOp a.eval o).run X.P w = .ok (.value (.slice (some ⟨w.heap.size, 0, none⟩) M (grownCap w M 0 e))) (w.drew.alloc (.cells (Builtin.zeroCells (Value.slice none 0 0).cells M ++ Builtin.zeroCells (Value.slice none 0 0).cells (grownCap w M 0 e - M)) e)) := by
    unfold execOp
    simp only [hop, Go.resolve, Go.invoke, Go.builtin, Sem.run_bind, Sem.run_pure, Result.andThen_ok, List.map_toArray, List.map_cons, List.map_nil, ha.ev hx, ha.ev hy, Int.ofNat_eq_natCast, hr, Array.empty_append]
  refine wp_val hr2 (hK _ _ _ _ ?_ hsat (k _ _ rfl))
  rw [hdst]
  exact ha.put (Nat.le_of_ble_eq_true hd) _
end
end Go.Proofs.Ytlibhidhfbecbaa.SL
