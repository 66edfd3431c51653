/- Paths: plain lemmas on bytes. -/
import Derived.Test.YtjhinpmnpdgadaaDoorWPure
import Derived.Test.YtjhinpmnpdgadaaDoorSLzm
import Derived.Lib.IndexLaws
namespace Go.Proofs.YtjhinpmnpdgadaaDoor.SL.Z
set_option linter.unusedVariables false
set_option linter.unusedSimpArgs false
open Go Go.Proofs.YtjhinpmnpdgadaaDoor.SL Go.Proofs.YtjhinpmnpdgadaaDoor.SL.W

/-- Bytes cut at strokes. -/
def pieces : List Int → List (List Int)
  | [] => [[]]
  | c :: r => if c = 47 then [] :: pieces r else match pieces r with
    | p :: ps => (c :: p) :: ps
    | [] => [[c]]
theorem pieces_ne : ∀ b : List Int, pieces b ≠ []
  | [] => by simp [pieces]
  | c :: r => by
    rw [pieces]
    split
    · simp
    · split <;> simp
theorem pieces_stroke (r : List Int) : pieces (47 :: r) = [] :: pieces r := by rw [pieces, if_pos rfl]
theorem pieces_app : ∀ (a c : List Int), pieces (a ++ 47 :: c) = pieces a ++ pieces c
  | [], c => by rw [List.nil_append, pieces_stroke]; rfl
  | x :: a, c => by
    rw [List.cons_append, pieces, pieces]
    by_cases h : x = 47
    · rw [if_pos h, if_pos h, pieces_app a c]; rfl
    · rw [if_neg h, if_neg h, pieces_app a c]
      cases hp : pieces a with
      | nil => exact absurd hp (pieces_ne a)
      | cons p ps => rfl
theorem pieces_none : ∀ {b : List Int}, (47 : Int) ∉ b → pieces b = [b]
  | [], _ => rfl
  | c :: r, h => by
    rw [pieces, if_neg (fun e => h (by rw [e]; exact List.mem_cons_self)), pieces_none (fun g => h (List.mem_cons_of_mem _ g))]
theorem pieces_at {p r : List Int} (hp : (47 : Int) ∉ p) : pieces (p ++ 47 :: r) = p :: pieces r := by rw [pieces_app, pieces_none hp]; rfl
def keeps (p : List Int) : Bool := decide (¬ (p = [] ∨ p = [46]))
def partsP (b : List Int) : List (List Int) := (pieces b).filter keeps
def mayP (p : List Int) : Prop := p ≠ [] ∧ p ≠ [46] ∧ p ≠ [46, 46] ∧ p.length ≤ 255 ∧ (0 : Int) ∉ p
instance (p : List Int) : Decidable (mayP p) := by unfold mayP; infer_instance
def okP (b : List Int) : Prop := b.head? ≠ some 47 ∧ (partsP b).length ≤ 32 ∧ ∀ p ∈ partsP b, mayP p
instance (b : List Int) : Decidable (okP b) := by unfold okP; infer_instance
theorem parts_app (a c : List Int) : partsP (a ++ 47 :: c) = partsP a ++ partsP c := by rw [partsP, pieces_app, List.filter_append]; rfl
def joinP : List (List Int) → List Int
  | [] => []
  | [p] => p
  | p :: q :: r => p ++ 47 :: joinP (q :: r)
theorem out_1 (a : List Int) : ¬ okP (47 :: a) := fun h => h.1 rfl
theorem out_2 (a b : List Int) : ¬ okP (a ++ 47 :: (46 :: 46 :: 47 :: b)) := fun h => by
  have hm : [46, 46] ∈ partsP (a ++ 47 :: (46 :: 46 :: 47 :: b)) := by
    rw [parts_app, show (46 :: 46 :: 47 :: b : List Int) = [46, 46] ++ 47 :: b from rfl, parts_app]
    exact List.mem_append_right _ (List.mem_append_left _ (by decide))
  exact (h.2.2 _ hm).2.2.1 rfl
theorem out_3 (b : List Int) : ¬ okP (46 :: 46 :: 47 :: b) := fun h => by
  have hm : [46, 46] ∈ partsP (46 :: 46 :: 47 :: b) := by
    rw [show (46 :: 46 :: 47 :: b : List Int) = [46, 46] ++ 47 :: b from rfl, parts_app]
    exact List.mem_append_left _ (by decide)
  exact (h.2.2 _ hm).2.2.1 rfl
/-! ### Texts -/
theorem sb_inj {a b : ByteArray} (h : sb a = sb b) : a = b := by
  have h2 : a.data.toList = b.data.toList := by
    apply List.ext_getElem?
    intro i
    have h3 := congrArg (fun l : List Int => l[i]?) h
    simp only [sb, List.getElem?_map] at h3
    cases ha : a.data.toList[i]? with
    | none =>
      cases hb : b.data.toList[i]? with
      | none => rfl
      | some y => rw [ha, hb] at h3; cases h3
    | some x =>
      cases hb : b.data.toList[i]? with
      | none => rw [ha, hb] at h3; cases h3
      | some y =>
        rw [ha, hb] at h3
        simp only [Option.map_some, Option.some.injEq] at h3
        have : x.toNat = y.toNat := by exact_mod_cast h3
        rw [UInt8.toNat_inj.1 this]
  obtain ⟨⟨a⟩⟩ := a
  obtain ⟨⟨b⟩⟩ := b
  simp only at h2
  rw [h2]
theorem sb_iff {a b : ByteArray} : a = b ↔ sb a = sb b := ⟨fun h => by rw [h], sb_inj⟩
theorem sb_stroke : sb ⟨#[47]⟩ = [47] := rfl
theorem may_1 {s : ByteArray} (h : s = ⟨#[]⟩) : ¬ mayP (sb s) := fun g => g.1 (by rw [h]; rfl)
theorem may_2 {s : ByteArray} (h : s = ⟨#[46]⟩) : ¬ mayP (sb s) := fun g => g.2.1 (by rw [h]; rfl)
theorem may_3 {s : ByteArray} (h : s = ⟨#[46, 46]⟩) : ¬ mayP (sb s) := fun g => g.2.2.1 (by rw [h]; rfl)
theorem may_5 {s : ByteArray} (h : ¬ ((s : ByteArray).size : Int) ≤ 255) : ¬ mayP (sb s) := fun g => by
  have := g.2.2.2.1
  rw [Go.Proofs.YtjhinpmnpdgadaaDoor.SL.sb_len] at this
  omega
theorem mem_sb {s : ByteArray} {c : UInt8} : (c.toNat : Int) ∈ sb s ↔ c ∈ s.data.toList := by
  constructor
  · intro h
    obtain ⟨x, hx, e⟩ := List.mem_map.1 h
    have : x.toNat = c.toNat := by exact_mod_cast e
    rw [← UInt8.toNat_inj.1 this]
    exact hx
  · intro h
    exact List.mem_map.2 ⟨c, h, rfl⟩
theorem idx_neg {l : List UInt8} {c : UInt8} : Lib.indexByte l c < 0 ↔ c ∉ l := by
  constructor
  · intro h g
    have h1 : Lib.indexByte l c = -1 := by have := Lib.indexByte_ge l c; omega
    obtain ⟨k, hk⟩ := List.getElem?_of_mem g
    exact Lib.indexByte_none h1 k hk
  · intro h
    rcases Int.lt_or_le (Lib.indexByte l c) 0 with h1 | h1
    · exact h1
    · obtain ⟨o, ho⟩ := Int.eq_ofNat_of_zero_le h1
      exact absurd (List.mem_of_getElem? (Lib.indexByte_some ho).1) h
theorem may_4 {s : ByteArray} (h1 : ¬ s = ⟨#[]⟩) (h2 : ¬ s = ⟨#[46]⟩) (h3 : ¬ s = ⟨#[46, 46]⟩) (h4 : ((s : ByteArray).size : Int) ≤ 255) : Lib.indexByte (s : ByteArray).data.toList (Int.toNat 0).toUInt8 < 0 ↔ mayP (sb s) := by
  rw [idx_neg]
  have e : (0 : Int) ∈ sb s ↔ (0 : UInt8) ∈ s.data.toList := mem_sb (c := 0)
  constructor
  · intro h
    exact ⟨fun g => h1 (sb_inj g), fun g => h2 (sb_inj g), fun g => h3 (sb_inj g), by rw [Go.Proofs.YtjhinpmnpdgadaaDoor.SL.sb_len]; omega, fun g => h (e.1 g)⟩
  · intro h g
    exact h.2.2.2.2 (e.2 g)
def NoZ (b : List Int) (n : Nat) : Prop := ∀ k, k < n → b.getD k 0 ≠ 0 ∨ b.length ≤ k
theorem NoZ.zero (b : List Int) : NoZ b 0 := fun k h => by omega
theorem NoZ.succ {b : List Int} {n : Nat} (h : NoZ b n) (hn : ¬ b.getD n 0 = 0) : NoZ b (n + 1) := fun k hk => by
  by_cases e : k = n
  · subst e; exact .inl hn
  · exact h k (by omega)
theorem noz_end {b : List Int} {n : Nat} (h : NoZ b n) (hn : b.length ≤ n) : (0 : Int) ∉ b := fun g => by
  obtain ⟨k, hk⟩ := List.getElem?_of_mem g
  have hl := (List.getElem?_eq_some_iff.1 hk).1
  rcases h k (by omega) with h1 | h1
  · rw [List.getD_eq_getElem?_getD, hk] at h1
    exact h1 rfl
  · omega
theorem may_6 {s : ByteArray} {n : Nat} (h1 : ¬ s = ⟨#[]⟩) (h2 : ¬ s = ⟨#[46]⟩) (h3 : ¬ s = ⟨#[46, 46]⟩) (h4 : ¬ ((s : ByteArray).size : Int) > 255) (h : NoZ (sb s) n) (hn : (s : ByteArray).size ≤ n) : mayP (sb s) :=
  ⟨fun g => h1 (sb_inj g), fun g => h2 (sb_inj g), fun g => h3 (sb_inj g), by rw [Go.Proofs.YtjhinpmnpdgadaaDoor.SL.sb_len]; omega, noz_end h (by rw [Go.Proofs.YtjhinpmnpdgadaaDoor.SL.sb_len]; exact hn)⟩
theorem may_7 {s : ByteArray} {i : Nat} (h : (sb s).getD i 0 = 0) (hi : i < (sb s).length) : ¬ mayP (sb s) := fun g => g.2.2.2.2 (by
  rw [List.getD_eq_getElem?_getD, List.getElem?_eq_getElem hi] at h
  simp only [Option.getD_some] at h
  rw [← h]
  exact List.getElem_mem hi)
theorem ex_short {s t : ByteArray} (h : ¬ t.size ≤ s.size) : ¬ ByteArray.extract s 0 t.size = t := fun e => by
  have := congrArg ByteArray.size e
  rw [ByteArray.size_extract] at this
  omega
/-! ### Rows of texts -/
def SzOK (ss : List ByteArray) : Prop := ∀ s ∈ ss, s.size ≤ 140737488351232
theorem SzOK.nil : SzOK [] := fun s h => by cases h
theorem SzOK.at_ {ss : List ByteArray} (h : SzOK ss) (i : Nat) : (ss.getD i ByteArray.empty).size ≤ 140737488351232 := by
  rw [List.getD_eq_getElem?_getD]
  by_cases hi : i < ss.length
  · rw [List.getElem?_eq_getElem hi]; exact h _ (List.getElem_mem hi)
  · rw [List.getElem?_eq_none (by omega)]; exact Nat.zero_le _
theorem str_next {xa xb : List ByteArray} {i : Nat} (hp : xa.take i = xb.take i) (h1 : i < xa.length) (h2 : i < xb.length) (h : xa.getD i ByteArray.empty = xb.getD i ByteArray.empty) : xa.take (i + 1) = xb.take (i + 1) := by
  rw [List.getD_eq_getElem?_getD, List.getD_eq_getElem?_getD, List.getElem?_eq_getElem h1, List.getElem?_eq_getElem h2] at h
  rw [List.take_succ_eq_append_getElem h1, List.take_succ_eq_append_getElem h2, hp]
  simp only [Option.getD_some] at h
  rw [h]
def MayAll (ss : List ByteArray) : Prop := ∀ s ∈ ss, mayP (sb s)
instance (ss : List ByteArray) : Decidable (MayAll ss) := by unfold MayAll; infer_instance
theorem MayAll.nil : MayAll [] := fun s h => by cases h
theorem MayAll.succ {ss : List ByteArray} {i : Nat} (h : MayAll (ss.take i)) (hi : i < ss.length) (hm : ¬ ¬ mayP (sb (ss.getD i ByteArray.empty))) : MayAll (ss.take (i + 1)) := fun s hs => by
  rw [List.take_succ_eq_append_getElem hi] at hs
  rcases List.mem_append.1 hs with hs | hs
  · exact h s hs
  · rw [List.mem_singleton.1 hs]
    have := Decidable.not_not.1 hm
    rwa [List.getD_eq_getElem?_getD, List.getElem?_eq_getElem hi] at this
theorem MayAll.all {ss : List ByteArray} {i : Nat} (h : MayAll (ss.take i)) (hi : ss.length ≤ i) : MayAll ss := by rwa [List.take_of_length_le hi] at h
theorem mayall_not {ss : List ByteArray} {i : Nat} (hm : ¬ mayP (sb (ss.getD i ByteArray.empty))) (hi : i < ss.length) : ¬ MayAll ss := fun h => hm (by
  rw [List.getD_eq_getElem?_getD, List.getElem?_eq_getElem hi]
  exact h _ (List.getElem_mem hi))
theorem nilS {A : Option Addr} {xs : List ByteArray} (h : Option.isNone A = true) (hA : 0 < xs.length → Option.isSome A = true) : [] = xs := by
  cases xs with
  | nil => rfl
  | cons x xs =>
    have := hA (by simp)
    cases A <;> simp_all
/-! ### Texts cut at strokes -/
theorem sb_ext (s : ByteArray) (a b : Nat) : sb (ByteArray.extract s a b) = ((sb s).drop a).take (b - a) := by
  simp only [sb, ByteArray.data_extract, Array.toList_extract]
  rw [List.extract_eq_take_drop, List.map_take, List.map_drop]
theorem str_sb (s : ByteArray) : strOfNums (sb s) = s := sb_inj (sb_str (In.sb s))
theorem str_inj {a b : List Int} (ha : In .u8 a) (hb : In .u8 b) : strOfNums a = strOfNums b ↔ a = b := ⟨fun h => by rw [← sb_str ha, ← sb_str hb, h], fun h => by rw [h]⟩
/-- Where the first stroke stands. -/
abbrev stk (s : ByteArray) : Int := Lib.indexByte (s : ByteArray).data.toList (Int.toNat 47).toUInt8
theorem stk_ge (s : ByteArray) : -1 ≤ stk s := Lib.indexByte_ge _ _
theorem stk_neg {s : ByteArray} (h : stk s < 0) : (47 : Int) ∉ sb s := fun g => idx_neg.1 h ((mem_sb (s := s) (c := 47)).1 g)
theorem stk_own : stk ⟨#[47]⟩ = 0 := by decide
theorem sb_get (s : ByteArray) (k : Nat) : (sb s)[k]? = s.data.toList[k]?.map (fun u => (u.toNat : Int)) := by rw [sb, List.getElem?_map]
theorem stk_at {s : ByteArray} (h : ¬ stk s < 0) : stk s < s.size ∧ pieces (sb s) = sb (ByteArray.extract s 0 (stk s).toNat) :: pieces (sb (ByteArray.extract s (stk s + 1).toNat s.size)) := by
  obtain ⟨o, ho⟩ := Int.eq_ofNat_of_zero_le (Int.not_lt.1 h)
  obtain ⟨h1, h2⟩ := Lib.indexByte_some ho
  have hl := (List.getElem?_eq_some_iff.1 h1).1
  have hs : o < s.size := by simpa using hl
  refine ⟨by rw [ho]; exact_mod_cast hs, ?_⟩
  rw [ho, sb_ext, sb_ext, show ((o : Int)).toNat = o from rfl, show ((o : Int) + 1).toNat = o + 1 by omega, List.drop_zero, Nat.sub_zero]
  have hlen : (sb s).length = s.size := Go.Proofs.YtjhinpmnpdgadaaDoor.SL.sb_len s
  rw [List.take_of_length_le (l := (sb s).drop (o + 1)) (by rw [List.length_drop, hlen]; omega)]
  have h3 : (sb s)[o]? = some 47 := by rw [sb_get, h1]; rfl
  have h4 : (47 : Int) ∉ (sb s).take o := fun g => by
    obtain ⟨k, hk⟩ := List.getElem?_of_mem g
    have hko : k < o := by have := (List.getElem?_eq_some_iff.1 hk).1; rw [List.length_take] at this; omega
    rw [List.getElem?_take, if_pos hko, sb_get] at hk
    cases hq : s.data.toList[k]? with
    | none => rw [hq] at hk; cases hk
    | some u =>
      rw [hq] at hk
      simp only [Option.map_some, Option.some.injEq] at hk
      refine h2 k hko ?_
      rw [hq]
      have : u.toNat = (47 : UInt8).toNat := by
        have e : (47 : UInt8).toNat = 47 := rfl
        rw [e]; omega
      rw [UInt8.toNat_inj.1 this]; rfl
  have h5 := List.getElem?_eq_some_iff.1 h3
  rw [← pieces_at h4]
  congr 1
  conv => lhs; rw [← List.take_append_drop o (sb s), List.drop_eq_getElem_cons h5.1, h5.2]
theorem stk_bd (s : ByteArray) : -1 ≤ stk s ∧ stk s < (s.size : Int) := ⟨stk_ge s, by
  by_cases h : stk s < 0
  · omega
  · exact (stk_at h).1⟩
theorem ext_le (s : ByteArray) (a b : Nat) : (ByteArray.extract s a b).size ≤ s.size := by rw [ByteArray.size_extract]; omega
theorem ext_bd {s : ByteArray} {a b n : Nat} (h : s.size ≤ n) : (ByteArray.extract s a b).size ≤ n := Nat.le_trans (ext_le s a b) h
theorem ext_lt {s : ByteArray} {a b : Nat} (h : 0 < a) (hs : 0 < s.size) : (ByteArray.extract s a b).size < s.size := by rw [ByteArray.size_extract]; omega
theorem at_drop {l : List (List Int)} {q : Nat} {p : List Int} {r : List (List Int)} (h : l.drop q = p :: r) : l.getD q [] = p ∧ l.drop (q + 1) = r ∧ q < l.length := by
  have hq : q < l.length := by
    rcases Nat.lt_or_ge q l.length with h1 | h1
    · exact h1
    · rw [List.drop_of_length_le h1] at h; cases h
  rw [List.drop_eq_getElem_cons hq] at h
  injection h with h1 h2
  exact ⟨by rw [List.getD_eq_getElem?_getD, List.getElem?_eq_getElem hq]; exact h1, h2, hq⟩
/-- The q-th piece of a text. -/
abbrev pieceS (s : ByteArray) (q : Nat) : ByteArray := strOfNums ((pieces (sb s)).getD q [])
theorem cut_last {s r : ByteArray} {q : Nat} (h : (pieces (sb s)).drop q = pieces (sb r)) (hr : stk r < 0) : r = pieceS s q ∧ q < (pieces (sb s)).length ∧ (pieces (sb s)).length = q + 1 := by
  rw [pieces_none (stk_neg hr)] at h
  have h2 := at_drop h
  refine ⟨by rw [pieceS, h2.1, str_sb], h2.2.2, ?_⟩
  have := congrArg List.length h2.2.1
  rw [List.length_drop, List.length_nil] at this
  omega
theorem cut_next {s r : ByteArray} {q : Nat} (h : (pieces (sb s)).drop q = pieces (sb r)) (hr : ¬ stk r < 0) : ByteArray.extract r 0 (stk r).toNat = pieceS s q ∧ (pieces (sb s)).drop (q + 1) = pieces (sb (ByteArray.extract r (stk r + 1).toNat r.size)) ∧ q < (pieces (sb s)).length ∧ stk r < r.size := by
  have h1 := stk_at hr
  rw [h1.2] at h
  have h2 := at_drop h
  exact ⟨by rw [pieceS, h2.1, str_sb], h2.2.1, h2.2.2, h1.1⟩
/-! ### The parts, as texts -/
theorem pieces_in {b : List Int} (h : In .u8 b) : ∀ p ∈ pieces b, In .u8 p := by
  induction b with
  | nil => intro p hp; rw [pieces, List.mem_singleton] at hp; rw [hp]; exact In.nil _
  | cons c r ih =>
    have hr : In .u8 r := fun x hx => h x (List.mem_cons_of_mem _ hx)
    have hc := h c List.mem_cons_self
    intro p hp
    rw [pieces] at hp
    by_cases hc2 : c = 47
    · rw [if_pos hc2] at hp
      rcases List.mem_cons.1 hp with rfl | hp
      · exact In.nil _
      · exact ih hr p hp
    · rw [if_neg hc2] at hp
      cases hq : pieces r with
      | nil => exact absurd hq (pieces_ne r)
      | cons q qs =>
        rw [hq] at hp
        rcases List.mem_cons.1 hp with rfl | hp
        · intro x hx
          rcases List.mem_cons.1 hx with rfl | hx
          · exact hc
          · exact ih hr q (by rw [hq]; exact List.mem_cons_self) x hx
        · exact ih hr p (by rw [hq]; exact List.mem_cons_of_mem _ hp)
theorem pieces_le {b : List Int} : ∀ p ∈ pieces b, p.length ≤ b.length := by
  induction b with
  | nil => intro p hp; rw [pieces, List.mem_singleton] at hp; rw [hp]; exact Nat.le_refl _
  | cons c r ih =>
    intro p hp
    rw [pieces] at hp
    by_cases hc2 : c = 47
    · rw [if_pos hc2] at hp
      rcases List.mem_cons.1 hp with rfl | hp
      · exact Nat.zero_le _
      · exact Nat.le_trans (ih p hp) (by simp)
    · rw [if_neg hc2] at hp
      cases hq : pieces r with
      | nil => exact absurd hq (pieces_ne r)
      | cons q qs =>
        rw [hq] at hp
        rcases List.mem_cons.1 hp with rfl | hp
        · have := ih q (by rw [hq]; exact List.mem_cons_self)
          simp only [List.length_cons]; omega
        · exact Nat.le_trans (ih p (by rw [hq]; exact List.mem_cons_of_mem _ hp)) (by simp)
theorem pieces_num {b : List Int} : (pieces b).length ≤ b.length + 1 := by
  induction b with
  | nil => exact Nat.le_refl _
  | cons c r ih =>
    rw [pieces]
    by_cases hc2 : c = 47
    · rw [if_pos hc2]; simp only [List.length_cons]; omega
    · rw [if_neg hc2]
      cases hq : pieces r with
      | nil => exact absurd hq (pieces_ne r)
      | cons q qs => rw [hq] at ih; simp only [List.length_cons] at ih ⊢; omega
abbrev texts (l : List (List Int)) : List ByteArray := (l.filter keeps).map strOfNums
def partsS (s : ByteArray) : List ByteArray := texts (pieces (sb s))
theorem keeps_str {p : List Int} (h : In .u8 p) : (strOfNums p = ⟨#[]⟩ ∨ strOfNums p = ⟨#[46]⟩) ↔ ¬ keeps p = true := by
  rw [keeps, decide_eq_true_iff, Decidable.not_not]
  have e1 : strOfNums p = ⟨#[]⟩ ↔ p = [] := str_inj h (In.nil _)
  have e2 : strOfNums p = ⟨#[46]⟩ ↔ p = [46] := str_inj (b := [46]) h (In.cons ⟨by decide, by decide⟩ (In.nil _))
  rw [e1, e2]
theorem texts_next {l : List (List Int)} {p : List Int} : texts (l ++ [p]) = if keeps p then texts l ++ [strOfNums p] else texts l := by
  rw [texts, List.filter_append, List.map_append]
  by_cases h : keeps p
  · rw [if_pos h, List.filter_cons_of_pos h]; rfl
  · rw [if_neg h, List.filter_cons_of_neg (by simpa using h)]; simp
def partN (s : ByteArray) (i : Nat) : List ByteArray := texts ((pieces (sb s)).take i)
theorem partN_take {s : ByteArray} {i : Nat} (h : i < (pieces (sb s)).length) : ∃ p, In .u8 p ∧ pieceS s i = strOfNums p ∧ (pieces (sb s)).take (i + 1) = (pieces (sb s)).take i ++ [p] := ⟨(pieces (sb s))[i], pieces_in (In.sb s) _ (List.getElem_mem h), by rw [pieceS, List.getD_eq_getElem?_getD, List.getElem?_eq_getElem h]; rfl, List.take_succ_eq_append_getElem h⟩
theorem partN_skip {s : ByteArray} {i : Nat} {zs : List ByteArray} (hz : zs = partN s i) (h : i < (pieces (sb s)).length) (hp : pieceS s i = ⟨#[]⟩ ∨ pieceS s i = ⟨#[46]⟩) : zs = partN s (i + 1) := by
  obtain ⟨p, h1, h2, h3⟩ := partN_take h
  rw [h2] at hp
  rw [hz, partN, partN, h3, texts_next, if_neg ((keeps_str h1).1 hp)]
theorem partN_keep {s : ByteArray} {i : Nat} {zs : List ByteArray} (hz : zs = partN s i) (h : i < (pieces (sb s)).length) (hp : ¬ pieceS s i = ⟨#[]⟩) (hp2 : ¬ pieceS s i = ⟨#[46]⟩) : zs ++ [pieceS s i] = partN s (i + 1) := by
  obtain ⟨p, h1, h2, h3⟩ := partN_take h
  rw [h2] at hp hp2 ⊢
  rw [hz, partN, partN, h3, texts_next, if_pos (Decidable.not_not.1 (fun g => ((keeps_str h1).2 g).elim hp hp2))]
theorem partN_all (s : ByteArray) : partN s (pieces (sb s)).length = partsS s := by rw [partN, List.take_length, partsS]
theorem partsS_len (s : ByteArray) : (partsS s).length = (partsP (sb s)).length := List.length_map _
theorem parts_in {s : ByteArray} : ∀ p ∈ partsP (sb s), In .u8 p := fun p hp => pieces_in (In.sb s) p (List.mem_filter.1 hp).1
theorem partsS_may (s : ByteArray) : MayAll (partsS s) ↔ ∀ p ∈ partsP (sb s), mayP p := by
  constructor
  · intro h p hp
    have := h (strOfNums p) (List.mem_map.2 ⟨p, hp, rfl⟩)
    rwa [sb_str (parts_in p hp)] at this
  · intro h t ht
    obtain ⟨p, hp, rfl⟩ := List.mem_map.1 ht
    rw [sb_str (parts_in p hp)]
    exact h p hp
theorem head_iff (s : ByteArray) : ByteArray.extract s 0 (⟨#[47]⟩ : ByteArray).size = ⟨#[47]⟩ ↔ (sb s).head? = some 47 := by
  rw [sb_iff, sb_ext, sb_stroke, List.drop_zero]
  show (sb s).take 1 = [47] ↔ _
  cases sb s with
  | nil => simp
  | cons c r => simp
/-- What Parts answers. -/
def PartsR (s : ByteArray) (zs : List ByteArray) (e : Int) : Prop := (okP (sb s) ∧ e = 0 ∧ zs = partsS s) ∨ (¬ okP (sb s) ∧ e = 12 ∧ zs = [])
theorem pr_head {s : ByteArray} (h : ByteArray.extract s 0 (⟨#[47]⟩ : ByteArray).size = ⟨#[47]⟩) : PartsR s [] 12 := .inr ⟨fun g => g.1 ((head_iff s).1 h), rfl, rfl⟩
theorem pr_many {s : ByteArray} {zs : List ByteArray} {i : Nat} (hz : zs = partN s i) (hi : i = (pieces (sb s)).length) (h : (zs.length : Int) > 32) : PartsR s [] 12 := .inr ⟨fun g => by
  rw [hz, hi, partN_all, partsS_len] at h
  have := g.2.1; omega, rfl, rfl⟩
theorem pr_may {s : ByteArray} {zs : List ByteArray} {i : Nat} (hz : zs = partN s i) (hi : i = (pieces (sb s)).length) (h : ¬ MayAll zs) : PartsR s [] 12 := .inr ⟨fun g => by
  rw [hz, hi, partN_all, partsS_may] at h
  exact h g.2.2, rfl, rfl⟩
theorem pr_good {s : ByteArray} {zs : List ByteArray} {i : Nat} (hz : zs = partN s i) (hi : i = (pieces (sb s)).length) (h0 : ¬ ByteArray.extract s 0 (⟨#[47]⟩ : ByteArray).size = ⟨#[47]⟩) (h1 : ¬ (zs.length : Int) > 32) (h : ¬ ¬ MayAll zs) : PartsR s zs 0 := by
  rw [hi, partN_all] at hz
  subst hz
  rw [partsS_len] at h1
  exact .inl ⟨⟨fun g => h0 ((head_iff s).2 g), by omega, (partsS_may s).1 (Decidable.not_not.1 h)⟩, rfl, rfl⟩
theorem PartsR.may {s : ByteArray} {zs : List ByteArray} {e : Int} (h : PartsR s zs e) : MayAll zs := by
  rcases h with ⟨h1, _, rfl⟩ | ⟨_, _, rfl⟩
  · exact (partsS_may s).2 h1.2.2
  · exact MayAll.nil
theorem PartsR.len {s : ByteArray} {zs : List ByteArray} {e : Int} (h : PartsR s zs e) : zs.length ≤ 32 := by
  rcases h with ⟨h1, _, rfl⟩ | ⟨_, _, rfl⟩
  · rw [partsS_len]; exact h1.2.1
  · exact Nat.zero_le _
theorem MayAll.sz {zs : List ByteArray} (h : MayAll zs) : SzOK zs := fun t ht => by
  have := (h t ht).2.2.2.1
  rw [Go.Proofs.YtjhinpmnpdgadaaDoor.SL.sb_len] at this
  omega
theorem szN {s : ByteArray} {zs : List ByteArray} {i : Nat} (hz : zs = partN s i) (hs : s.size ≤ 140737488351232) : SzOK zs := fun t ht => by
  rw [hz] at ht
  obtain ⟨p, hp, rfl⟩ := List.mem_map.1 ht
  have hp2 := List.mem_of_mem_take (List.mem_filter.1 hp).1
  rw [← Go.Proofs.YtjhinpmnpdgadaaDoor.SL.sb_len, sb_str (pieces_in (In.sb s) p hp2)]
  have := pieces_le p hp2
  rw [Go.Proofs.YtjhinpmnpdgadaaDoor.SL.sb_len] at this
  omega
theorem lenN {s : ByteArray} {zs : List ByteArray} {i : Nat} (hz : zs = partN s i) : zs.length ≤ s.size + 1 := by
  rw [hz, partN, texts, List.length_map]
  refine Nat.le_trans (List.length_filter_le _ _) (Nat.le_trans (by rw [List.length_take]; exact Nat.min_le_right _ _) ?_)
  rw [← Go.Proofs.YtjhinpmnpdgadaaDoor.SL.sb_len]; exact pieces_num
/-! ### The reference's walk -/
def RP (b : List Int) (dn : List (List Int)) (f i : Nat) : Prop := (i ≤ b.length ∧ f ≤ i ∧ pieces b = dn ++ pieces (b.drop f) ∧ (47 : Int) ∉ (b.drop f).take (i - f)) ∨ (i = b.length + 1 ∧ pieces b = dn)
theorem RP.start (b : List Int) : RP b [] 0 0 := .inl ⟨Nat.zero_le _, Nat.le_refl _, rfl, by simp⟩
theorem RP.skip {b : List Int} {dn : List (List Int)} {f i : Nat} (h : RP b dn f i) (hi : i < b.length) (hc : b.getD i 0 ≠ 47) : RP b dn f (i + 1) := by
  rcases h with ⟨h1, h2, h3, h4⟩ | h
  · refine .inl ⟨hi, by omega, h3, ?_⟩
    rw [show i + 1 - f = (i - f) + 1 by omega, List.take_succ_eq_append_getElem (by rw [List.length_drop]; omega)]
    intro g
    rcases List.mem_append.1 g with g | g
    · exact h4 g
    · rw [List.mem_singleton, List.getElem_drop] at g
      refine hc ?_
      rw [List.getD_eq_getElem?_getD, List.getElem?_eq_getElem hi, Option.getD_some, g]
      congr 1
      omega
  · omega
theorem RP.cut {b : List Int} {dn : List (List Int)} {f i : Nat} (h : RP b dn f i) (hi : i ≤ b.length) (hc : i < b.length → b.getD i 0 = 47) : RP b (dn ++ [(b.drop f).take (i - f)]) (i + 1) (i + 1) := by
  rcases h with ⟨h1, h2, h3, h4⟩ | h
  · by_cases hl : i < b.length
    · refine .inl ⟨hl, Nat.le_refl _, ?_, by simp⟩
      rw [h3, List.append_assoc]
      congr 1
      have hx : b[i] = 47 := by
        have := hc hl
        rwa [List.getD_eq_getElem?_getD, List.getElem?_eq_getElem hl, Option.getD_some] at this
      have e : b.drop f = (b.drop f).take (i - f) ++ 47 :: b.drop (i + 1) := by
        conv => lhs; rw [← List.take_append_drop (i - f) (b.drop f), List.drop_drop, show f + (i - f) = i by omega, List.drop_eq_getElem_cons hl, hx]
      conv => lhs; rw [e, pieces_at h4]
      rfl
    · refine .inr ⟨by omega, ?_⟩
      rw [h3]
      congr 1
      have e : (b.drop f).take (i - f) = b.drop f := List.take_of_length_le (by rw [List.length_drop]; omega)
      rw [e] at h4 ⊢
      exact pieces_none h4
  · omega
def RPs (s : ByteArray) (zs : List ByteArray) (f i : Int) : Prop := ∃ dn, zs = texts dn ∧ RP (sb s) dn f.toNat i.toNat
theorem rp_0 (s : ByteArray) : RPs s [] 0 0 := ⟨[], rfl, RP.start _⟩
theorem rp_skip {s : ByteArray} {zs : List ByteArray} {f i : Int} (h : RPs s zs f i) (h0 : 0 ≤ i) (hi : i < s.size) (hc : ¬ (sb s).getD i.toNat 0 = 47) : RPs s zs f (i + 1) := by
  obtain ⟨dn, h1, h2⟩ := h
  refine ⟨dn, h1, ?_⟩
  rw [show (i + 1).toNat = i.toNat + 1 by omega]
  exact h2.skip (by rw [Go.Proofs.YtjhinpmnpdgadaaDoor.SL.sb_len]; omega) hc
theorem cutS {s : ByteArray} {f i : Int} : ∃ p, In .u8 p ∧ ByteArray.extract s f.toNat i.toNat = strOfNums p ∧ p = ((sb s).drop f.toNat).take (i.toNat - f.toNat) := ⟨_, by rw [← sb_ext]; exact In.sb _, by rw [← sb_ext, str_sb], rfl⟩
theorem rp_drop {s : ByteArray} {zs : List ByteArray} {f i : Int} (h : RPs s zs f i) (h0 : 0 ≤ i) (hi : i ≤ s.size) (hc : i < s.size → (sb s).getD i.toNat 0 = 47) (hp : ByteArray.extract s f.toNat i.toNat = ⟨#[]⟩ ∨ ByteArray.extract s f.toNat i.toNat = ⟨#[46]⟩) : RPs s zs (i + 1) (i + 1) := by
  obtain ⟨dn, h1, h2⟩ := h
  obtain ⟨p, g1, g2, g3⟩ := cutS (s := s) (f := f) (i := i)
  rw [g2] at hp
  refine ⟨dn ++ [p], by rw [texts_next, if_neg ((keeps_str g1).1 hp)]; exact h1, ?_⟩
  rw [g3, show (i + 1).toNat = i.toNat + 1 by omega]
  exact h2.cut (by rw [Go.Proofs.YtjhinpmnpdgadaaDoor.SL.sb_len]; omega) (fun q => hc (by rw [Go.Proofs.YtjhinpmnpdgadaaDoor.SL.sb_len] at q; omega))
theorem rp_keep {s : ByteArray} {zs : List ByteArray} {f i : Int} (h : RPs s zs f i) (h0 : 0 ≤ i) (hi : i ≤ s.size) (hc : i < s.size → (sb s).getD i.toNat 0 = 47) (hp : ¬ ByteArray.extract s f.toNat i.toNat = ⟨#[]⟩) (hp2 : ¬ ByteArray.extract s f.toNat i.toNat = ⟨#[46]⟩) : RPs s (zs ++ [ByteArray.extract s f.toNat i.toNat]) (i + 1) (i + 1) := by
  obtain ⟨dn, h1, h2⟩ := h
  obtain ⟨p, g1, g2, g3⟩ := cutS (s := s) (f := f) (i := i)
  rw [g2] at hp hp2 ⊢
  refine ⟨dn ++ [p], by rw [texts_next, if_pos (Decidable.not_not.1 (fun g => ((keeps_str g1).2 g).elim hp hp2)), h1], ?_⟩
  rw [g3, show (i + 1).toNat = i.toNat + 1 by omega]
  exact h2.cut (by rw [Go.Proofs.YtjhinpmnpdgadaaDoor.SL.sb_len]; omega) (fun q => hc (by rw [Go.Proofs.YtjhinpmnpdgadaaDoor.SL.sb_len] at q; omega))
theorem RPs.sub {s : ByteArray} {zs : List ByteArray} {f i : Int} (h : RPs s zs f i) : ∃ r, partsS s = zs ++ r := by
  obtain ⟨dn, h1, h2⟩ := h
  rcases h2 with ⟨_, _, h3, _⟩ | ⟨_, h3⟩
  · exact ⟨texts (pieces ((sb s).drop f.toNat)), by rw [partsS, h3, texts, List.filter_append, List.map_append, h1]⟩
  · exact ⟨[], by rw [partsS, h3, h1, List.append_nil]⟩
theorem rp_bad {s : ByteArray} {zs : List ByteArray} {f i : Int} (h : RPs s zs f i) (h0 : 0 ≤ i) (hi : i ≤ s.size) (hc : i < s.size → (sb s).getD i.toNat 0 = 47) (hp : ¬ ByteArray.extract s f.toNat i.toNat = ⟨#[]⟩) (hp2 : ¬ ByteArray.extract s f.toNat i.toNat = ⟨#[46]⟩) (hb : ¬ mayP (sb (ByteArray.extract s f.toNat i.toNat)) ∨ 32 ≤ (zs.length : Int)) : PartsR s [] 12 := by
  obtain ⟨r, hr⟩ := (rp_keep h h0 hi hc hp hp2).sub
  refine .inr ⟨fun g => ?_, rfl, rfl⟩
  rcases hb with hb | hb
  · exact hb (((partsS_may s).2 g.2.2) _ (by rw [hr]; exact List.mem_append_left _ (List.mem_append_right _ List.mem_cons_self)))
  · have h1 := partsS_len s
    have h2 := g.2.1
    rw [hr, List.length_append, List.length_append, List.length_cons] at h1
    omega
theorem rp_end {s : ByteArray} {zs : List ByteArray} {f i : Int} (h : RPs s zs f i) (hi : ¬ i ≤ s.size) (hm : MayAll zs) (hl : zs.length ≤ 32) (hh : ¬ (sb s).head? = some 47) : PartsR s zs 0 := by
  obtain ⟨dn, h1, h2⟩ := h
  rcases h2 with ⟨h3, _⟩ | ⟨_, h3⟩
  · rw [Go.Proofs.YtjhinpmnpdgadaaDoor.SL.sb_len] at h3; omega
  · have e : zs = partsS s := by rw [partsS, h3, h1]
    subst e
    exact .inl ⟨⟨hh, by rw [← partsS_len]; exact hl, (partsS_may s).1 hm⟩, rfl, rfl⟩
theorem head_get {s : ByteArray} (h : 0 < (s.size : Int)) : (sb s).head? = some 47 ↔ (sb s).getD 0 0 = 47 := by
  have hl : 0 < (sb s).length := by rw [Go.Proofs.YtjhinpmnpdgadaaDoor.SL.sb_len]; omega
  rw [List.getD_eq_getElem?_getD, List.getElem?_eq_getElem hl, Option.getD_some, List.head?_eq_getElem?, List.getElem?_eq_getElem hl, Option.some.injEq]
theorem head_nil {s : ByteArray} (h : ¬ 0 < (s.size : Int)) : ¬ (sb s).head? = some 47 := by
  have hl : (sb s) = [] := List.eq_nil_of_length_eq_zero (by rw [Go.Proofs.YtjhinpmnpdgadaaDoor.SL.sb_len]; omega)
  rw [hl]; simp
theorem MayAll.snoc {zs : List ByteArray} {t : ByteArray} (h : MayAll zs) (ht : mayP (sb t)) : MayAll (zs ++ [t]) := fun x hx => by
  rcases List.mem_append.1 hx with hx | hx
  · exact h x hx
  · rw [List.mem_singleton.1 hx]; exact ht
/-! ### Joined -/
theorem big_div {k : Int} (h : 1 ≤ k) (h2 : k ≤ 1000) : ¬ 1 ≥ 9223372036854775807 / k := by
  have : 2 ≤ 9223372036854775807 / k := (Int.le_ediv_iff_mul_le (by omega)).2 (by omega)
  omega
theorem joinP_snoc : ∀ {l : List (List Int)}, l ≠ [] → ∀ p, joinP (l ++ [p]) = joinP l ++ 47 :: p
  | [], h, _ => absurd rfl h
  | [q], _, p => rfl
  | q :: r :: l, _, p => by
    rw [List.cons_append, List.cons_append, joinP, joinP, ← List.cons_append, joinP_snoc (by simp) p, List.append_assoc]; rfl
def joinS (xs : List ByteArray) : ByteArray := strOfNums (joinP (xs.map sb))
theorem joinP_in {l : List (List Int)} (h : ∀ p ∈ l, In .u8 p) : In .u8 (joinP l) := by
  induction l with
  | nil => exact In.nil _
  | cons p l ih =>
    have h1 := h p List.mem_cons_self
    have h2 := ih (fun q hq => h q (List.mem_cons_of_mem _ hq))
    cases l with
    | nil => exact h1
    | cons q l => exact h1.append (In.cons ⟨by decide, by decide⟩ h2)
theorem join_in (xs : List ByteArray) : In .u8 (joinP (xs.map sb)) := joinP_in (fun p hp => by
  obtain ⟨t, _, rfl⟩ := List.mem_map.1 hp
  exact In.sb t)
theorem sb_join (xs : List ByteArray) : sb (joinS xs) = joinP (xs.map sb) := sb_str (join_in xs)
theorem join_one {xs : List ByteArray} (h : (xs.length : Int) = 1) : xs.getD 0 ByteArray.empty = joinS xs := by
  match xs with
  | [] => simp at h
  | [x] => exact (str_sb x).symm
  | x :: y :: r => simp at h; omega
theorem join_nil {xs : List ByteArray} (h : (xs.length : Int) = 0) : (⟨#[]⟩ : ByteArray) = joinS xs := by
  have : xs = [] := List.eq_nil_of_length_eq_zero (by omega)
  rw [this]; rfl
theorem getD_at {xs : List ByteArray} {i : Nat} (h : i < xs.length) : xs.getD i ByteArray.empty = xs[i] := by rw [List.getD_eq_getElem?_getD, List.getElem?_eq_getElem h]; rfl
theorem MayAll.at_ {xs : List ByteArray} (h : MayAll xs) {i : Nat} (hi : i < xs.length) : 0 < (xs.getD i ByteArray.empty).size ∧ (xs.getD i ByteArray.empty).size ≤ 255 := by
  rw [getD_at hi]
  have h1 := h _ (List.getElem_mem hi)
  rw [← Go.Proofs.YtjhinpmnpdgadaaDoor.SL.sb_len]
  exact ⟨List.length_pos_iff.2 h1.1, h1.2.2.2.1⟩
theorem MayAll.le {xs : List ByteArray} (h : MayAll xs) (i : Nat) : (xs.getD i ByteArray.empty).size ≤ 255 := by
  by_cases hi : i < xs.length
  · exact (h.at_ hi).2
  · rw [List.getD_eq_getElem?_getD, List.getElem?_eq_none (by omega)]; exact Nat.zero_le _
theorem join_first {xs : List ByteArray} (h : 0 < xs.length) : sb (xs.getD 0 ByteArray.empty) = joinP ((xs.take 1).map sb) := by
  cases xs with
  | nil => simp at h
  | cons x r => rfl
theorem join_next {xs : List ByteArray} {k : Nat} (h : k < xs.length) (hk : 0 < k) : joinP ((xs.take (k + 1)).map sb) = joinP ((xs.take k).map sb) ++ 47 :: sb (xs.getD k ByteArray.empty) := by
  rw [List.take_succ_eq_append_getElem h, List.map_append, getD_at h]
  refine joinP_snoc (fun e => ?_) _
  have := congrArg List.length e
  rw [List.length_map, List.length_take, List.length_nil] at this
  omega
theorem sb_app (a b : ByteArray) : sb (a ++ b) = sb a ++ sb b := by
  simp only [sb, ByteArray.data_append, Array.toList_append, List.map_append]
theorem joinS_1 {xs : List ByteArray} {t : ByteArray} {i : Nat} (ht : t = joinS (xs.take i)) (h0 : i = 0) (h : i < xs.length) : t ++ xs.getD i ByteArray.empty = joinS (xs.take (i + 1)) := by
  subst h0
  apply sb_inj
  rw [ht, sb_app, sb_join, sb_join, join_first h]; rfl
theorem joinS_2 {xs : List ByteArray} {t : ByteArray} {i : Nat} (ht : t = joinS (xs.take i)) (h0 : 0 < i) (h : i < xs.length) : (t ++ ⟨#[47]⟩) ++ xs.getD i ByteArray.empty = joinS (xs.take (i + 1)) := by
  apply sb_inj
  rw [ht, sb_app, sb_app, sb_join, sb_join, join_next h h0, sb_stroke, List.append_assoc]; rfl
theorem app_size (a b : ByteArray) : (a ++ b).size = a.size + b.size := ByteArray.size_append
theorem joinS_all {xs : List ByteArray} {i : Nat} (h : xs.length ≤ i) : joinS (xs.take i) = joinS xs := by rw [List.take_of_length_le h]
theorem quo_ok {k : Int} (h : 1 ≤ k) (h2 : k ≤ 1000) : 0 ≤ (9223372036854775807 : Int) ∧ 0 < k ∧ -9223372036854775808 ≤ (9223372036854775807 : Int) / k ∧ (9223372036854775807 : Int) / k < 9223372036854775808 := by
  have h3 : 0 ≤ (9223372036854775807 : Int) / k := Int.ediv_nonneg (by omega) (by omega)
  have h4 : (9223372036854775807 : Int) / k ≤ 9223372036854775807 := Int.ediv_le_self _ (by omega)
  exact ⟨by omega, by omega, by omega, by omega⟩
theorem MayAll.tail {xs z : List ByteArray} {a b : Nat} (h : MayAll xs) (hz : z = (xs.drop a).take b) : MayAll z := fun t ht => by
  rw [hz] at ht
  exact h t (List.mem_of_mem_drop (List.mem_of_mem_take ht))
theorem tail_at {xs z : List ByteArray} {a b i : Nat} (hz : z = (xs.drop a).take b) (hi : i < b) : z.getD i ByteArray.empty = xs.getD (a + i) ByteArray.empty := by
  rw [hz, List.getD_eq_getElem?_getD, List.getD_eq_getElem?_getD, List.getElem?_take, if_pos hi, List.getElem?_drop]
theorem write_first {xs : List ByteArray} {z : List Int} (hM : MayAll xs) (h : 1 < (xs.length : Int)) (hz : z = [] ++ sb (xs.getD (0 : Int).toNat ByteArray.empty)) : z = joinP ((xs.take ((0 : Int).toNat + 1)).map sb) ∧ (z.length : Int) ≤ 256 * (0 + 1) ∧ 0 < z.length := by
  have h1 := hM.at_ (i := 0) (by omega)
  rw [List.nil_append] at hz
  have h2 : z.length = (xs.getD 0 ByteArray.empty).size := by rw [hz]; exact Go.Proofs.YtjhinpmnpdgadaaDoor.SL.sb_len _
  refine ⟨?_, by omega, by omega⟩
  rw [hz]; exact join_first (by omega)
theorem write_next {xs z : List ByteArray} {a b : Nat} {ws zA zB : List Int} {i : Int} (hM : MayAll xs) (hz : z = (xs.drop a).take b) (ha : a = 1) (hb : b = xs.length - 1) (hi : 0 ≤ i) (hl : i + 1 < (xs.length : Int)) (hw : ws = joinP ((xs.take (i.toNat + 1)).map sb)) (hwl : (ws.length : Int) ≤ 256 * (i + 1)) (hA : zA = ws ++ sb ⟨#[47]⟩) (hB : zB = zA ++ sb (z.getD i.toNat ByteArray.empty)) :
    zB = joinP ((xs.take ((i + 1).toNat + 1)).map sb) ∧ (zB.length : Int) ≤ 256 * (i + 1 + 1) ∧ 0 < zB.length := by
  have e := tail_at (i := i.toNat) hz (by omega)
  rw [ha] at e
  have h1 := hM.at_ (i := 1 + i.toNat) (by omega)
  rw [e] at hB
  have h2 : zB.length = ws.length + 1 + (xs.getD (1 + i.toNat) ByteArray.empty).size := by rw [hB, hA, List.length_append, List.length_append, Go.Proofs.YtjhinpmnpdgadaaDoor.SL.sb_len, Go.Proofs.YtjhinpmnpdgadaaDoor.SL.sb_len]; rfl
  refine ⟨?_, by omega, by omega⟩
  rw [show (i + 1).toNat + 1 = (1 + i.toNat) + 1 by omega, join_next (by omega) (by omega), hB, hA, hw, sb_stroke, show i.toNat + 1 = 1 + i.toNat by omega, List.append_assoc]; rfl
theorem write_end {xs : List ByteArray} {ws : List Int} {i : Int} (hw : ws = joinP ((xs.take (i.toNat + 1)).map sb)) (h : (xs.length : Int) ≤ i + 1) : strOfNums ws = joinS xs := by rw [hw, List.take_of_length_le (by omega), joinS]
/-! ### Whiteouts -/
abbrev WH : ByteArray := ⟨#[46, 119, 104, 46]⟩
abbrev OPQ : ByteArray := ⟨#[46, 119, 104, 46, 46, 119, 104, 46, 46, 111, 112, 113]⟩
abbrev lastS (xs : List ByteArray) : ByteArray := xs.getD ((xs.length : Int) - 1).toNat ByteArray.empty
abbrev initS (xs : List ByteArray) : List ByteArray := xs.take ((xs.length : Int) - 1).toNat
abbrev restS (t : ByteArray) : ByteArray := ByteArray.extract t 4 t.size
def whP (xs : List ByteArray) : List ByteArray × Int × Int :=
  if xs.length = 0 then ([], 0, 0) else if lastS xs = OPQ then (initS xs, 2, 0) else if ¬ ByteArray.extract (lastS xs) 0 4 = WH then (xs, 0, 0) else if ¬ mayP (sb (restS (lastS xs))) then ([], 0, 12) else (initS xs ++ [restS (lastS xs)], 1, 0)
theorem wh_0 {xs : List ByteArray} (h : (xs.length : Int) = 0) : (([] : List ByteArray), (0 : Int), (0 : Int)) = whP xs := by rw [whP, if_pos (by omega)]
theorem wh_1 {xs : List ByteArray} (h : ¬ (xs.length : Int) = 0) (h1 : lastS xs = OPQ) : (initS xs, (2 : Int), (0 : Int)) = whP xs := by rw [whP, if_neg (by omega), if_pos h1]
theorem wh_2 {xs : List ByteArray} (h : ¬ (xs.length : Int) = 0) (h1 : ¬ lastS xs = OPQ) (h2 : ¬ ByteArray.extract (lastS xs) 0 4 = WH) : (xs, (0 : Int), (0 : Int)) = whP xs := by rw [whP, if_neg (by omega), if_neg h1, if_pos h2]
theorem wh_3 {xs : List ByteArray} (h : ¬ (xs.length : Int) = 0) (h1 : ¬ lastS xs = OPQ) (h2 : ByteArray.extract (lastS xs) 0 4 = WH) (h3 : ¬ mayP (sb (restS (lastS xs)))) : (([] : List ByteArray), (0 : Int), (12 : Int)) = whP xs := by rw [whP, if_neg (by omega), if_neg h1, if_neg (Decidable.not_not.2 h2), if_pos h3]
theorem wh_4 {xs : List ByteArray} (h : ¬ (xs.length : Int) = 0) (h1 : ¬ lastS xs = OPQ) (h2 : ByteArray.extract (lastS xs) 0 4 = WH) (h3 : mayP (sb (restS (lastS xs)))) : (initS xs ++ [restS (lastS xs)], (1 : Int), (0 : Int)) = whP xs := by rw [whP, if_neg (by omega), if_neg h1, if_neg (Decidable.not_not.2 h2), if_neg (Decidable.not_not.2 h3)]
theorem init_split {xs : List ByteArray} (h : ¬ (xs.length : Int) = 0) : xs = initS xs ++ [lastS xs] := by
  have h1 : ((xs.length : Int) - 1).toNat < xs.length := by omega
  rw [initS, lastS, getD_at h1, ← List.take_succ_eq_append_getElem h1, List.take_of_length_le (by omega)]
theorem ext4 {s : ByteArray} (h : ByteArray.extract s 0 4 = WH) : 4 ≤ (s.size : Int) := by
  have := congrArg ByteArray.size h
  rw [ByteArray.size_extract] at this
  have e : WH.size = 4 := rfl
  omega
theorem wr_1 {xs ss : List ByteArray} (h : ¬ (xs.length : Int) = 0) (hs : ss = initS xs) (h1 : lastS xs = OPQ) : (([] : List ByteArray) ++ ss, (2 : Int), (0 : Int)) = whP xs := by rw [hs]; exact wh_1 h h1
theorem wr_2 {xs ss : List ByteArray} (h : ¬ (xs.length : Int) = 0) (hs : ss = initS xs) (h1 : ¬ lastS xs = OPQ) (h2 : ¬ ByteArray.extract (lastS xs) 0 4 = WH) : ((([] : List ByteArray) ++ ss) ++ [lastS xs], (0 : Int), (0 : Int)) = whP xs := by
  rw [List.nil_append, hs, ← init_split h]; exact wh_2 h h1 h2
theorem short4 {xs : List ByteArray} (h : ((xs.getD ((xs.length : Int) - 1).toNat ByteArray.empty).size : Int) < 4) : ¬ ByteArray.extract (lastS xs) 0 4 = WH := fun g => by
  have := ext4 g
  simp only [lastS] at this
  omega
theorem wr_4 {xs ss : List ByteArray} (h : ¬ (xs.length : Int) = 0) (hs : ss = initS xs) (h1 : ¬ lastS xs = OPQ) (h2 : ByteArray.extract (lastS xs) 0 4 = WH) (h3 : mayP (sb (restS (lastS xs)))) : ((([] : List ByteArray) ++ ss) ++ [restS (lastS xs)], (1 : Int), (0 : Int)) = whP xs := by
  rw [List.nil_append, hs]; exact wh_4 h h1 h2 h3
theorem wp_3 {xs : List ByteArray} {rz : ByteArray} (h : ¬ (xs.length : Int) = 0) (h1 : ¬ lastS xs = OPQ) (hr : rz = if ByteArray.extract (lastS xs) 0 4 = WH then restS (lastS xs) else lastS xs) (h2 : ByteArray.extract (lastS xs) 0 4 = WH) (h3 : ¬ mayP (sb rz)) : (([] : List ByteArray), (0 : Int), (12 : Int)) = whP xs := by
  rw [if_pos h2] at hr
  rw [hr] at h3
  exact wh_3 h h1 h2 h3
theorem wp_4 {xs ss zs : List ByteArray} {rz : ByteArray} (h : ¬ (xs.length : Int) = 0) (hz : zs = ss) (hs : ss = initS xs) (h1 : ¬ lastS xs = OPQ) (hr : rz = if ByteArray.extract (lastS xs) 0 4 = WH then restS (lastS xs) else lastS xs) (h2 : ByteArray.extract (lastS xs) 0 4 = WH) (h3 : mayP (sb rz)) : (zs ++ [rz], (1 : Int), (0 : Int)) = whP xs := by
  rw [if_pos h2] at hr
  rw [hr] at h3
  rw [hz, hs, hr]
  exact wh_4 h h1 h2 h3
theorem rz_le {s rz : ByteArray} (hr : rz = if ByteArray.extract s 0 4 = WH then restS s else s) (h : s.size ≤ 255) : rz.size ≤ 140737488351232 := by
  split at hr
  · have := ext_le s 4 s.size
    rw [hr, restS]; omega
  · rw [hr]; omega
/-! ### The laws -/
theorem PartsR.same {s : ByteArray} {z1 z2 : List ByteArray} {e1 e2 : Int} (h1 : PartsR s z1 e1) (h2 : PartsR s z2 e2) : e1 = e2 ∧ z1 = z2 := by
  rcases h1 with ⟨a1, b1, c1⟩ | ⟨a1, b1, c1⟩ <;> rcases h2 with ⟨a2, b2, c2⟩ | ⟨a2, b2, c2⟩
  · exact ⟨by rw [b1, b2], by rw [c1, c2]⟩
  · exact absurd a1 a2
  · exact absurd a2 a1
  · exact ⟨by rw [b1, b2], by rw [c1, c2]⟩
theorem PartsR.no {s : ByteArray} {z : List ByteArray} {e : Int} (h : PartsR s z e) (hn : ¬ okP (sb s)) : e = 12 := by
  rcases h with ⟨a, _⟩ | ⟨_, b, _⟩
  · exact absurd a hn
  · exact b
theorem PartsR.yes {s : ByteArray} {z : List ByteArray} {e : Int} (h : PartsR s z e) (hn : okP (sb s)) : e = 0 ∧ z = partsS s := by
  rcases h with ⟨_, b, c⟩ | ⟨a, _⟩
  · exact ⟨b, c⟩
  · exact absurd hn a
theorem PartsR.ok {s : ByteArray} {z : List ByteArray} {e : Int} (h : PartsR s z e) (he : e = 0) : okP (sb s) ∧ z = partsS s := by
  rcases h with ⟨a, _, c⟩ | ⟨_, b, _⟩
  · exact ⟨a, c⟩
  · rw [he] at b; exact absurd b (by decide)
theorem po_1 {a : ByteArray} {z : List ByteArray} {e : Int} (h : PartsR (⟨#[47]⟩ ++ a) z e) : e = 12 := h.no (by rw [sb_app]; exact out_1 _)
theorem po_2 {a b : ByteArray} {z : List ByteArray} {e : Int} (h : PartsR ((a ++ ⟨#[47, 46, 46, 47]⟩) ++ b) z e) : e = 12 := h.no (by rw [sb_app, sb_app, List.append_assoc]; exact out_2 _ _)
theorem po_3 {b : ByteArray} {z : List ByteArray} {e : Int} (h : PartsR (⟨#[46, 46, 47]⟩ ++ b) z e) : e = 12 := h.no (by rw [sb_app]; exact out_3 _)
theorem aw_1 {z : List ByteArray} {e : Int} (h : PartsR ⟨#[46, 47, 97, 47, 47, 98, 47]⟩ z e) : e = 0 ∧ joinS z = ⟨#[97, 47, 98]⟩ := by
  have h2 := h.yes (by decide +kernel)
  exact ⟨h2.1, by rw [h2.2]; decide +kernel⟩
theorem aw_2 {z : List ByteArray} {e : Int} (h : PartsR ⟨#[97, 47, 46, 46, 47, 98]⟩ z e) : e = 12 := h.no (by decide +kernel)
theorem aw_3 {z : List ByteArray} {k e : Int} (h : (z, k, e) = whP [⟨#[100]⟩, ⟨#[46, 119, 104, 46, 120]⟩]) : e = 0 ∧ k = 1 ∧ z = [⟨#[100]⟩, ⟨#[120]⟩] ∧ joinS z = ⟨#[100, 47, 120]⟩ := by
  have e1 : whP [⟨#[100]⟩, ⟨#[46, 119, 104, 46, 120]⟩] = ([⟨#[100]⟩, ⟨#[120]⟩], 1, 0) := by decide +kernel
  rw [e1] at h
  injection h with h1 h2
  injection h2 with h2 h3
  subst h1
  exact ⟨h3, h2, rfl, by decide +kernel⟩
theorem SzOK.take {zs : List ByteArray} (h : SzOK zs) (n : Nat) : SzOK (zs.take n) := fun t ht => h t (List.mem_of_mem_take ht)
end Go.Proofs.YtjhinpmnpdgadaaDoor.SL.Z
