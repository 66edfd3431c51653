import Derived.Test.YtjhinpmnpdgadaaDoorSLr
import Derived.LoopN
import Derived.Laws.BytesArg
import Derived.Lib.ConvBytes
import Derived.Laws.Externs
import Derived.Lib.SliceRun
import Derived.Laws.IdiomCopy
import Derived.Laws.CopyRow
/- Rows of numbers: made, grown, read, written; copies. -/
namespace Go.Proofs.YtjhinpmnpdgadaaDoor.SL
set_option linter.unusedVariables false
set_option linter.unusedSimpArgs false
open Go

/-- f tells (perhaps among more) that these cells can be read from A on. -/
def Tells (f : Fact) (A : Option Addr) (us : List Value) : Prop := ∀ w fp, f.P w fp → ∃ q : FP, (∀ b, q b → fp b) ∧ (vw A us).P w q

theorem tells_vw (A : Option Addr) (us : List Value) : Tells (vw A us) A us := fun _ fp h => ⟨fp, fun _ hb => hb, h⟩
theorem tells_row (T s n cap : Nat) (A : Option Addr) (cs : List Value) : Tells (row T s (.slice A n cap) n cs) A cs := fun w fp h => vw_of_row w fp h
theorem tells_part {f : Fact} {A : Option Addr} {cs : List Value} (h : Tells f A cs) (l m s : Nat) (us : List Value) (hu : us = (cs.drop (l * s)).take us.length) (hm : us ≠ [] → m ≠ l) : Tells f (subBase A l m s) us := fun w fp hp => by
  obtain ⟨q, h1, h2⟩ := h w fp hp
  obtain ⟨q', h3, h4⟩ := vw_part l m s us hu hm w q h2
  exact ⟨q', fun b hb => h1 b (h3 b hb), h4⟩
theorem tells_take {f : Fact} {A : Option Addr} {cs : List Value} (h : Tells f A cs) (us : List Value) (hu : us = cs.take us.length) : Tells f A us := fun w fp hp => by
  obtain ⟨q, h1, h2⟩ := h w fp hp
  refine ⟨q, h1, h2.1, fun hp => ?_⟩
  have hlen : us.length ≤ cs.length := by have := congrArg List.length hu; simp at this; omega
  obtain ⟨a, h3, h4, h5⟩ := h2.2 (by omega)
  refine ⟨a, h3, h4, fun j v hv => h5 j v ?_⟩
  rw [hu, List.getElem?_take] at hv
  split at hv
  · exact hv
  · cases hv

theorem Lend.tells {D V : List Fact} (h : Lend D V) (k : Nat) (f : Fact) (A : Option Addr) (us : List Value) (hf : D[k]? = some f) (hi : Tells f A us) : Lend D (vw A us :: V) := h.cons k f _ hf rfl hi

section
variable {X : Cx} {U : Tab} (hU : U.OK X.P) {t : Env} {D : List Fact} {φ : Env → List Fact → Prop}

omit hU in
theorem cells_at {A : Option Addr} {us : List Value} {w : World} {fp : FP} (h : (vw A us).P w fp) {p : Nat} (hp : p < us.length) : ∃ a, A = some a ∧ ∀ j u, us[p + j]? = some u → w.cell? ((a.add p).add j) = some u := by
  obtain ⟨ad, rfl, hc⟩ := vw_cells h (by omega)
  refine ⟨ad, rfl, fun j u hu => ?_⟩
  rcases Nat.eq_zero_or_pos p with h0 | h0
  · subst h0
    have := hc (0 + j) u hu
    simpa [Addr.add] using this
  · rcases Nat.eq_zero_or_pos j with h1 | h1
    · subst h1
      have := hc _ u hu
      simpa [Addr.add] using this
    · have := hc _ u hu
      have e : (ad.add p).add j = ad.add (p + j) := by
        unfold Addr.add
        rw [if_neg (by omega), if_neg (by omega), if_neg (by omega)]
        simp [Nat.add_assoc]
      rw [e]
      exact this

include hU

theorem run_load_tells {ty : TypeId} {x : Operand} {f : Fact} {A : Option Addr} {i : Int} {s : Nat} {us : List Value} {v : Value} (ht : Tells f A us) (hv : loadv U ty us (i.toNat * s) = some v) (hlt : i.toNat * s < us.length)
    {o : Oper} (hop : o.op = .load ty x) {a : Act} (hx : a.eval x = .pointer (elemAt A i s)) {w : World} {fp : FP} (hP : f.P w fp) : (execOp a.eval o).run X.P w = .ok (.value v) w := by
  obtain ⟨q, _, hq⟩ := ht w fp hP
  obtain ⟨ad, rfl, hc⟩ := cells_at hq hlt
  unfold execOp
  simp only [hop, hx]
  have := run_loadv hU (X := X) hv (a := ad.add (i.toNat * s)) (w := w) hc
  rw [Sem.run_bind, show elemAt (some ad) i s = some (ad.add (i.toNat * s)) from rfl, this]
  rfl

omit hU in
theorem Step.after {dst : Option Tmp} {op : Op} (h : Step X dst op t D (fun t' D' => ∃ D2, (∀ w0 W w, SAT w0 W D' w → SAT w0 W D2 w) ∧ φ t' D2)) : Step X dst op t D φ :=
  fun o hd ho ρ a w ha hw Q K hK => h o hd ho ρ a w ha hw Q K (fun t' D' a' w' h1 h2 ⟨D2, h3, h4⟩ => hK t' D2 a' w' h1 (h3 _ _ w' h2) h4)

/-- An element is read. -/
theorem Step.load {d : Nat} {ty : TypeId} {x : Operand} (k0 : Nat) (f : Fact) (A : Option Addr) (i : Int) (s : Nat) (us : List Value) (v : Value) (hx : ev t x = some (.pointer (elemAt A i s))) (hD : D[k0]? = some f) (ht : Tells f A us) (hlt : i.toNat * s < us.length) (hv : loadv U ty us (i.toNat * s) = some v)
    (hd : Nat.ble (d + 1) X.N = true) (k : φ (put t d v) D) : Step X (some d) (.load ty x) t D φ := by
  intro op hdst hop ρ a w ha hw Q K hK
  obtain ⟨fp, hh⟩ := hw.get k0 hD
  refine wp_val (run_load_tells hU ht hv hlt hop (ha.ev hx) hh) (hK _ _ _ _ ?_ hw k)
  rw [hdst]
  exact ha.put (Nat.le_of_ble_eq_true hd) _

theorem Reads.load {Θ : List Fact} {d : Option Nat} {ty : TypeId} {x : Operand} (k0 : Nat) (f : Fact) (A : Option Addr) (i : Int) (s : Nat) (us : List Value) (v : Value) (hx : ev t x = some (.pointer (elemAt A i s))) (hD : Θ[k0]? = some f) (ht : Tells f A us) (hlt : i.toNat * s < us.length) (hv : loadv U ty us (i.toNat * s) = some v) :
    Reads X Θ d (.load ty x) t v := by
  intro op hdst hop ρ a w ha hΘ
  obtain ⟨fp, hP⟩ := hΘ f (List.mem_of_getElem? hD)
  exact run_load_tells hU ht hv hlt hop (ha.ev hx) hP

theorem Reads.load_blk {Θ : List Fact} {d : Option Nat} {ty : TypeId} {x : Operand} (k0 : Nat) (b o T : Nat) (cs : List Value) (v : Value) (hx : ev t x = some (.pointer (some ⟨b, o, none⟩))) (hD : Θ[k0]? = some (blk b T cs)) (hv : loadv U ty cs o = some v) :
    Reads X Θ d (.load ty x) t v := by
  intro op hdst hop ρ a w ha hΘ
  obtain ⟨fp, hh, _⟩ := hΘ _ (List.mem_of_getElem? hD)
  unfold execOp
  simp only [hop, ha.ev hx]
  have := run_loadv hU (X := X) hv (a := ⟨b, o, none⟩) (w := w) (fun j u hu => by rw [Addr.add_mid, cell_of_row w b _ _ T _ hh]; simpa using hu)
  rw [Sem.run_bind, this]
  rfl

end
end Go.Proofs.YtjhinpmnpdgadaaDoor.SL

/- Literals of rows, strings and bytes, clearing, copying; rounds one by one. -/
namespace Go.Proofs.YtjhinpmnpdgadaaDoor.SL
set_option linter.unusedVariables false
set_option linter.unusedSimpArgs false
open Go

section
variable {X : Cx} {U : Tab} (hU : U.OK X.P) {t : Env} {D : List Fact} {φ : Env → List Fact → Prop} {K : Post}

/-! ### Rounds, one by one -/
/-! ### A row of numbers written out -/
include hU

end

section
variable {X : Cx} {t : Env} {D : List Fact} {φ : Env → List Fact → Prop}
/-- A function of the library's without a body. -/
theorem Step.extern {d : Option Nat} {c : Operand} {as : Array Operand} {ts : Array TypeId} (f : FuncId) (vs : List Value) (fn : Func) (e : Array Value → Sem Value) (v : Value) (hc : callee t c as.toList = some (f, vs)) (hf : X.P.funcs[f]? = some fn) (hname : (fn.name == "runtime.NumGoroutine") = false) (hb : fn.body.isNone = true) (hn : Extern.findNext fn = none)
    (he : Extern.find fn = some e) (hr : ∀ w, (e vs.toArray).run X.P w = .ok v w) (hd : (d.map fun d => Nat.ble (d + 1) X.N).getD true = true) (k : φ (putO t d v) D) :
    Step X d (.call { callee := .value c, args := as, argTypes := ts }) t D φ := by
  intro o hdst hop ρ a w ha hw Q K hK
  unfold callee at hc
  split at hc
  · rename_i f' first captured us h1 h2
    simp only [Option.some.injEq, Prod.mk.injEq] at hc
    obtain ⟨rfl, rfl⟩ := hc
    have hargs : as.map a.eval = us.toArray := by
      rw [← Array.toList_inj, Array.toList_map]
      exact eval_map ha h2
    have hr' : (execOp a.eval o).run X.P w = .ok (.value v) w := by
      unfold execOp
      have he' : first ++ us.toArray ++ captured = (first.toList ++ us ++ captured.toList).toArray := by rw [← Array.toList_inj]; simp
      simp only [hop, resolve, ha.ev h1, Deferred.ofValue, invoke, hargs, Sem.run_bind, Sem.run_pure, Result.andThen_ok, he', run_callFunc_extern hf hname hb hn he, hr]
    refine wp_val hr' (hK _ _ _ _ ?_ hw k)
    rw [hdst]
    exact ha.putO hd v
  · cases hc
/-- The end, with other facts. -/
theorem kret_rt {U : Tab} {rs : List ResultVar} {Φ : Value → List Fact → Prop} (D2 : List Fact) (h2 : ∀ w0 W w, SAT w0 W D w → SAT w0 W D2 w) (vs : List Value) (ks : List Nat) (D' : List Fact) (h : ResOK U t D rs vs) (hD : (pulls ks D2).1 = D') (ho : D'.all (·.own) = true) (hΦ : Φ (retv vs) D') : kret U rs Φ .ret t D :=
  ⟨vs, D', h, fun f hf => List.all_eq_true.1 ho f hf, fun w0 W w hs => (h2 w0 W w hs).sel ks D' hD, hΦ⟩
theorem kret_nt {U : Tab} {rs : List ResultVar} {Φ : Value → List Fact → Prop} (D2 : List Fact) (h2 : ∀ w0 W w, SAT w0 W D w → SAT w0 W D2 w) (vs : List Value) (ks : List Nat) (D' : List Fact) (h : ResOK U t D rs vs) (hD : (pulls ks D2).1 = D') (ho : D'.all (·.own) = true) (hΦ : Φ (retv vs) D') : kret U rs Φ .normal t D :=
  ⟨vs, D', h, fun f hf => List.all_eq_true.1 ho f hf, fun w0 W w hs => (h2 w0 W w hs).sel ks D' hD, hΦ⟩
end
end Go.Proofs.YtjhinpmnpdgadaaDoor.SL

/- Reading and writing single numbers. -/
namespace Go.Proofs.YtjhinpmnpdgadaaDoor.SL
set_option linter.unusedVariables false
set_option linter.unusedSimpArgs false
open Go
section
variable {X : Cx} {U : Tab} (hU : U.OK X.P) {t : Env} {D : List Fact} {φ : Env → List Fact → Prop}
include hU
end

theorem fits_wrap (k : IntKind) (e : Int) : fits k (IntKind.wrap k e) := by cases k <;> simp [fits, IntKind.wrap, IntKind.bits, IntKind.signed] <;> omega
theorem fits_bits2 (op : BinOp) (k : IntKind) (a b : Int) : fits k (bits2 op k a b) := by cases op <;> simp only [bits2] <;> first | exact fits_wrap _ _ | exact fits_zero k
theorem vw_some {w0 : World} {W : FP} {D : List Fact} {w : World} (h : SAT w0 W D w) (k : Nat) {A : Option Addr} {cs : List Value} (hk : D[k]? = some (vw A cs)) {n : Nat} (hn : cs.length = n) : 0 < n → A.isSome = true := fun hp => by
  obtain ⟨fp, hP⟩ := h.get k hk
  obtain ⟨a, rfl, _⟩ := vw_cells hP (by omega)
  rfl
theorem part_some {A : Option Addr} (h : A.isSome = true) (l m s : Nat) : (subBase A l m s).isSome = true := by
  unfold subBase
  split
  · exact h
  · obtain ⟨a, rfl⟩ := Option.isSome_iff_exists.1 h; rfl
/-! ### What a call that changed nothing old leaves -/
theorem Frame.below {w w' : World} (h : Frame w (fun _ => False) w') : RowKit.Below w.heap.size w w' := ⟨h.os, h.tape, h.output, h.size, fun k hk => h.block k hk (fun h => h)⟩
theorem SAT.start (w : World) : SAT w (fun _ => False) [] w := ⟨Frame.refl _ _, fun _ => False, fun _ => False, trivial, fun _ h => h.elim, fun _ h => h.elim, fun _ h => h.elim id id |>.elim⟩
/-- A law's run, out of its contract. -/
theorem CallsS.law {P : Program} {f : FuncId} {args : List Value} {D : List Fact} (h : CallsS P f args D fun r D' => r = .bool true ∧ D' = []) {w : World} (hs : SAT w (fun _ => False) D w) :
    Calls P f args.toArray w fun e w' => e = .returned (.bool true) ∧ RowKit.Below w.heap.size w w' :=
  (h.2 w _ hs).mono fun _ _ ⟨r, D', h1, ⟨h2, _⟩, _, h4⟩ => ⟨by rw [h1, h2], h4.fr.below⟩
end Go.Proofs.YtjhinpmnpdgadaaDoor.SL

/- Appending where the old row is used further; clearing; copying. -/
namespace Go.Proofs.YtjhinpmnpdgadaaDoor.SL
set_option linter.unusedVariables false
set_option linter.unusedSimpArgs false
open Go
section
variable {X : Cx} {U : Tab} (hU : U.OK X.P) {t : Env} {D : List Fact} {φ : Env → List Fact → Prop}
include hU

omit hU in
theorem nums_wrs (k : IntKind) (xs : List Int) (i : Nat) (ys : List Int) : wr (nums k xs) i (nums k ys) = nums k (xs.take i ++ ys ++ xs.drop (i + ys.length)) := by
  simp [wr, nums, List.map_take, List.map_drop]

omit hU in
/-- A part of a row of numbers is written over. -/
theorem row_write {w0 : World} {W : FP} {e n cap : Nat} {A : Option Addr} {kd : IntKind} {xs : List Int} {w : World} (h : SAT w0 W (row e 1 (.slice A n cap) n (nums kd xs) :: D) w) (hn : 0 < n) :
    ∃ b ex, A = some ⟨b, 0, none⟩ ∧ w.heap[b]? = some (.cells (nums kd xs ++ ex).toArray e (0, 0)) ∧ n = xs.length ∧
      ∀ (l : Nat) (ys : List Int), l + ys.length ≤ xs.length → SAT w0 W (row e 1 (.slice A n cap) n (nums kd (xs.take l ++ ys ++ xs.drop (l + ys.length))) :: D) (w.setRow b ((nums kd xs ++ ex).take l ++ nums kd ys ++ (nums kd xs ++ ex).drop (l + (nums kd ys).length)).toArray) := by
  have hlen := (row_len h).1
  rw [nums_length, Nat.mul_one] at hlen
  obtain ⟨b, cap', ex, hv, hnc, hcm, hex, hw2⟩ := row_open h hn
  injection hv with hA _ hcap
  subst hA; subst hcap
  obtain ⟨fp, hh, _⟩ := hw2.head
  refine ⟨b, ex, rfl, hh, hlen.symm, fun l ys hl => ?_⟩
  have h3 := sat_setRow (cs' := nums kd (xs.take l ++ ys ++ xs.drop (l + ys.length)) ++ ex) hw2
  have e1 : (nums kd xs ++ ex).take l ++ nums kd ys ++ (nums kd xs ++ ex).drop (l + (nums kd ys).length) = nums kd (xs.take l ++ ys ++ xs.drop (l + ys.length)) ++ ex := by
    rw [List.take_append_of_le_length (by rw [nums_length]; omega), List.drop_append_of_le_length (by rw [nums_length, nums_length]; omega), nums_length]
    simp [nums, List.map_take, List.map_drop]
  rw [e1]
  have hl2 : (nums kd (xs.take l ++ ys ++ xs.drop (l + ys.length))).length = n * 1 := by rw [nums_length]; simp; omega
  have h4 := SAT.row_of_blk (s := 1) h3 hnc hcm (by rw [List.length_append, hl2]; rw [List.length_append, nums_length] at hex; omega)
  rwa [← hl2, List.take_left] at h4

end
end Go.Proofs.YtjhinpmnpdgadaaDoor.SL

/- Arrays of numbers: loaded and stored whole. -/
namespace Go.Proofs.YtjhinpmnpdgadaaDoor.SL
set_option linter.unusedVariables false
set_option linter.unusedSimpArgs false
open Go
section
variable {X : Cx} {U : Tab} (hU : U.OK X.P) {t : Env} {D : List Fact} {φ : Env → List Fact → Prop}

include hU
end
end Go.Proofs.YtjhinpmnpdgadaaDoor.SL

/- Blocks whose cells lie in segments: the fields of a struct. -/
namespace Go.Proofs.YtjhinpmnpdgadaaDoor.SL
set_option linter.unusedVariables false
set_option linter.unusedSimpArgs false
open Go

/-- q lies in cs, from o on. -/
def Seg (cs : List Value) (o : Nat) (q : List Value) : Prop := ∃ p r, cs = p ++ (q ++ r) ∧ p.length = o
theorem Seg.all (q : List Value) : Seg q 0 q := ⟨[], [], by simp, rfl⟩
theorem Seg.here (q r : List Value) : Seg (q ++ r) 0 q := ⟨[], r, rfl, rfl⟩
theorem Seg.skip {p cs q : List Value} {n o : Nat} (hp : p.length = n) (h : Seg cs o q) : Seg (p ++ cs) (n + o) q := by
  obtain ⟨a, r, rfl, h2⟩ := h
  exact ⟨p ++ a, r, by simp, by simp [hp, h2]⟩
theorem Seg.told {cs q : List Value} {o : Nat} (h : Seg cs o q) : q = (cs.drop o).take q.length := by
  obtain ⟨p, r, rfl, rfl⟩ := h
  simp
theorem Seg.one {cs : List Value} {v : Value} {o : Nat} (h : Seg cs o [v]) : cs[o]? = some v := by
  obtain ⟨p, r, rfl, rfl⟩ := h
  simp
theorem Seg.le {cs q : List Value} {o : Nat} (h : Seg cs o q) : o + q.length ≤ cs.length := by
  obtain ⟨p, r, rfl, rfl⟩ := h
  simp only [List.length_append]
  omega
theorem Seg.sub {cs q u : List Value} {o i : Nat} (h : Seg cs o q) (h2 : Seg q i u) : Seg cs (o + i) u := by
  obtain ⟨p, r, rfl, rfl⟩ := h
  obtain ⟨p2, r2, rfl, rfl⟩ := h2
  exact ⟨p ++ p2, r2 ++ r, by simp, by simp⟩
/-- What cs becomes when us is written from o on. -/
def Put (cs : List Value) (o : Nat) (us cs' : List Value) : Prop := wr cs o us = cs' ∧ o + us.length ≤ cs.length
theorem Put.all {q us : List Value} (h : us.length = q.length) : Put q 0 us us := by
  refine ⟨?_, by omega⟩
  simp [wr, h]
theorem Put.here {q us : List Value} (r : List Value) (h : us.length = q.length) : Put (q ++ r) 0 us (us ++ r) := by
  refine ⟨?_, by simp; omega⟩
  simp [wr, h]
theorem Put.front {q us q' : List Value} {i : Nat} (r : List Value) (h : Put q i us q') : Put (q ++ r) i us (q' ++ r) := by
  obtain ⟨rfl, h2⟩ := h
  refine ⟨?_, by simp; omega⟩
  simp only [wr]
  rw [List.take_append_of_le_length (by omega), List.drop_append_of_le_length h2]
  simp
theorem Put.skip {p cs us cs' : List Value} {n o : Nat} (hp : p.length = n) (h : Put cs o us cs') : Put (p ++ cs) (n + o) us (p ++ cs') := by
  obtain ⟨rfl, h2⟩ := h
  subst hp
  refine ⟨?_, by simp; omega⟩
  simp only [wr]
  rw [List.take_append, List.take_of_length_le (by omega), show p.length + o - p.length = o by omega, List.drop_append, List.drop_of_length_le (by omega), show p.length + o + us.length - p.length = o + us.length by omega]
  simp
theorem Put.at {cs us cs' : List Value} {o p : Nat} (h : Put cs o us cs') (hp : p = o) : Put cs p us cs' := by subst hp; exact h

section
variable {X : Cx} {U : Tab} (hU : U.OK X.P) {t : Env} {D : List Fact} {φ : Env → List Fact → Prop}
include hU
theorem Step.store_seg {ty : TypeId} {x y : Operand} (k0 b o T : Nat) (cs cs' us : List Value) (v : Value) (hx : ev t x = some (.pointer (some ⟨b, o, none⟩))) (hy : ev t y = some v) (hD : D[k0]? = some (blk b T cs))
    (n : Nat) (hn : look U.sz ty = some n) (hus : v.cells.toList = us) (hl : us.length = n) (h1 : us.all (·.oneCell') = true) (hp : Put cs o us cs') (k : φ t (blk b T cs' :: D.eraseIdx k0)) : Step X none (.store ty x y) t D φ := by
  obtain ⟨rfl, h2⟩ := hp
  exact Step.store_blk hU k0 b o T cs v hx hy hD n hn us hus hl h1 (by omega) k
end
theorem all_one_nums (k : IntKind) (xs : List Int) : (nums k xs).all (·.oneCell') = true := List.all_eq_true.2 (fun u hu => nums_one k xs u hu)
end Go.Proofs.YtjhinpmnpdgadaaDoor.SL

/- The builtin copy, into a block's segments and into rows. -/
namespace Go.Proofs.YtjhinpmnpdgadaaDoor.SL
set_option linter.unusedVariables false
set_option linter.unusedSimpArgs false
open Go

/-- us written over a part of xs. -/
def putl (xs : List Int) (i : Nat) (us : List Int) : List Int := xs.take i ++ us ++ xs.drop (i + us.length)
theorem putl_len {xs us : List Int} {i : Nat} (h : i + us.length ≤ xs.length) : (putl xs i us).length = xs.length := by simp [putl]; omega
theorem In.putl {k : IntKind} {xs us : List Int} {i : Nat} (hx : In k xs) (hu : In k us) : In k (putl xs i us) := ((hx.take _).append hu).append (hx.drop _)
theorem Put.nums {k : IntKind} {xs us : List Int} {i p : Nat} (h : i + us.length ≤ xs.length) (hp : p = i) : Put (nums k xs) p (nums k us) (nums k (putl xs i us)) := by
  subst hp
  refine ⟨nums_wrs _ _ _ _, by simp only [nums_length]; omega⟩
section
variable {X : Cx} {U : Tab} (hU : U.OK X.P) {t : Env} {D : List Fact} {φ : Env → List Fact → Prop}
theorem Step.copy_run {d : Option Nat} {tx ty : TypeId} {x y : Operand} (e n : Nat) (dst src : Value) (D' : List Fact) (hx : ev t x = some dst) (hy : ev t y = some src)
    (hr : ∀ w0 W w o, SAT w0 W D w → ∃ w', (Builtin.copy_ #[tx, ty] o #[dst, src]).run X.P w = .ok (.int .i64 n) w' ∧ SAT w0 W D' w') (hd : (d.map fun d => Nat.ble (d + 1) X.N).getD true = true)
    (k : φ (putO t d (.int .i64 n)) D') : Step X d (.call { callee := .builtin .copy, args := #[x, y], argTypes := #[tx, ty] }) t D φ := by
  intro o hdst hop ρ a w ha hw Q K hK
  obtain ⟨w', hrun, hs⟩ := hr _ _ w o.type hw
  have hr : (execOp a.eval o).run X.P w = .ok (.value (.int .i64 n)) w' := by
    unfold execOp
    simp only [hop, resolve, invoke, builtin, Sem.run_bind, Sem.run_pure, Result.andThen_ok, List.map_toArray, List.map_cons, List.map_nil, ha.ev hx, ha.ev hy, hrun]
  refine wp_val hr (hK _ _ _ _ ?_ hs k)
  rw [hdst]
  exact ha.putO hd _

include hU
theorem info_one {e : TypeId} (h : look U.sz e = some 1) : (X.P.info? e).map (·.size) = some 1 := by
  obtain ⟨i, h1, h2⟩ := hU.sz _ (look_mem h)
  simp [h1, h2]

theorem Step.copy_row {d : Option Nat} {tx ty : TypeId} {x y : Operand} (e k0 k1 l n cap nd cd ns cs_ : Nat) (B Ad A : Option Addr) (xs : List Int) (f : Fact) (kd : IntKind) (ys : List Int)
    (hty : look U.und tx = some (.slice e)) (hsz : look U.sz e = some 1) (hx : ev t x = some (.slice Ad nd cd)) (hAd : 0 < nd → ∀ b, B = some ⟨b, 0, none⟩ → Ad = some ⟨b, l, none⟩) (hy : ev t y = some (.slice A ns cs_))
    (hD : D[k0]? = some (row e 1 (.slice B n cap) n (nums kd xs))) (hf : D[k1]? = some f) (hfu : Tells f A (nums kd ys)) (hns : ns = ys.length) (hl : l + nd ≤ n) (hd : (d.map fun d => Nat.ble (d + 1) X.N).getD true = true)
    (k : φ (putO t d (.int .i64 ((min ys.length nd : Nat) : Int))) (row e 1 (.slice B n cap) n (nums kd (putl xs l (ys.take nd))) :: D.eraseIdx k0)) : Step X d (.call { callee := .builtin .copy, args := #[x, y], argTypes := #[tx, ty] }) t D φ := by
  subst hns
  have hu := hU.und _ (look_mem hty)
  simp only at hu
  have hi := info_one hU (X := X) hsz
  refine Step.copy_run e (min ys.length nd) _ _ _ hx hy (fun w0 W w to hw => ?_) hd k
  have hw' := hw.pull hD
  by_cases h0 : min ys.length nd = 0
  · refine ⟨w, ?_, ?_⟩
    · rw [h0]; exact run_copy_none w tx ty to e Ad A nd cd ys.length cs_ hu hi h0
    · have e1 : ys.take nd = [] := List.eq_nil_of_length_eq_zero (by rw [List.length_take]; omega)
      rw [e1, putl]
      simpa using hw'
  · obtain ⟨b, ex, rfl, hh, hn, hset⟩ := row_write hw' (by omega)
    obtain rfl := hAd (by omega) b rfl
    obtain ⟨fpf, hfP⟩ := hw.get k1 hf
    obtain ⟨q, _, hv⟩ := hfu w fpf hfP
    obtain ⟨a, rfl, hc⟩ := vw_cells hv (by rw [nums_length]; omega)
    have hl1 : (nums kd (ys.take nd)).length = Nat.min ys.length nd := by rw [nums_length, List.length_take]; exact Nat.min_comm _ _
    have hl2 : (ys.take nd).length ≤ nd := by rw [List.length_take]; omega
    have hrun := run_copy_row X.P w tx ty to e b l nd cd a ys.length cs_ (nums kd xs ++ ex).toArray e (nums kd (ys.take nd)) hu hi hh hl1 (fun j v hj => hc j v (by
      have hlt := (List.getElem?_eq_some_iff.1 hj).1
      rw [nums_length, List.length_take] at hlt
      rw [nums, List.map_take, List.getElem?_take] at hj
      rw [if_pos (by omega)] at hj
      exact hj)) (by rw [nums_length]; simp [nums_length]; omega) (nums_one kd _)
    refine ⟨_, ?_, hset l (ys.take nd) (by omega)⟩
    have e2 : goInt ((nums kd (ys.take nd)).length : Int) = .int .i64 ((min ys.length nd : Nat) : Int) := by rw [hl1]; rfl
    rw [hrun]
    simp only [e2]
end
end Go.Proofs.YtjhinpmnpdgadaaDoor.SL

/- A constant text's bytes: a row that was just laid is marked; it can still be read. -/
namespace Go.Proofs.YtjhinpmnpdgadaaDoor.SL
set_option linter.unusedVariables false
set_option linter.unusedSimpArgs false
open Go

/-- The first fact, which is owned, becomes one that can be read only, in a world that differs in its blocks alone. -/
theorem SAT.thaw {w0 : World} {W : FP} {D : List Fact} {w w' : World} {f : Fact} (h : SAT w0 W (f :: D) w) (hf : f.own = true) (g : Fact) (hg : g.own = false)
    (hos : w'.os = w.os) (ht : w'.tape = w.tape) (hu : w'.output = w.output) (hsz : w'.heap.size = w.heap.size)
    (hP : ∀ fp, f.P w fp → (∀ b, ¬ fp b → w'.heap[b]? = w.heap[b]?) ∧ g.P w' fp) : SAT w0 W (g :: D) w' := by
  obtain ⟨fr, O, R, ⟨fp, hp, h1⟩, h2, h3, h4⟩ := h
  rw [hf] at h1
  obtain ⟨hb, hgP⟩ := hP fp hp
  refine ⟨⟨hos.trans fr.os, ht.trans fr.tape, hu.trans fr.output, by rw [hsz]; exact fr.size, fun b hlt hW => ?_⟩, fun b => O b ∧ ¬ fp b, fun b => R b ∨ fp b, ⟨fp, hgP, ?_⟩, ?_, fun b hb' => h3 b hb'.1, ?_⟩
  · refine (hb b (fun hfp => ?_)).trans (fr.block b hlt hW)
    rcases h3 b (h1.1 b hfp) with h | h
    · omega
    · exact hW h
  · rw [hg]
    refine ⟨fun b hb' => .inr hb', sat_mono (sat_loc h1.2 (fun b hb' => hb b (fun hfp => ?_))) (fun b hb' => hb') (fun b hb' => .inl hb')⟩
    rcases hb' with hb' | hb'
    · exact hb'.2 hfp
    · exact h2 b (h1.1 b hfp) hb'
  · rintro b ⟨ho, hn⟩ (hr | hr)
    · exact h2 b ho hr
    · exact hn hr
  · rintro b (hb' | hb' | hb')
    · rw [hsz]; exact h4 b (.inl hb'.1)
    · rw [hsz]; exact h4 b (.inr hb')
    · rw [hsz]; exact h4 b (.inl (h1.1 b hb'))

section
variable {X : Cx} {U : Tab} (hU : U.OK X.P) {t : Env} {D : List Fact} {φ : Env → List Fact → Prop}
include hU
end
end Go.Proofs.YtjhinpmnpdgadaaDoor.SL
