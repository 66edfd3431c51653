/- Files over the journal: entries of maps, and what the program reckons. -/
import Derived.Test.YtlibhidhfbecbaaQPure
import Derived.Test.YtlibhidhfbecbaaSLzy
namespace Go.Proofs.Ytlibhidhfbecbaa.SL.I
set_option linter.unusedVariables false
set_option linter.unusedSimpArgs false
open Go Go.Proofs.Ytlibhidhfbecbaa.SL Go.Proofs.Ytlibhidhfbecbaa.SL.W Go.Proofs.Ytlibhidhfbecbaa.SL.D

structure Fe where
  nm : ByteArray
  sl : Int
  sz : Int
  A : Option Addr
  c : Nat
  bl : List Int
  born : Nat
def feV (e : Fe) : Value := .agg #[.int .i64 e.sl, .int .i64 e.sz, .slice e.A e.bl.length e.c]
def feM (e : Fe) : Me := (e.nm, feV e, e.born)
def fz : Fe := ⟨⟨#[]⟩, 0, 0, none, 0, [], 0⟩
def fget (F : List Fe) (k : ByteArray) : Option Fe := F.find? fun e => decide (k = e.nm)
theorem mget_fe (F : List Fe) (k : ByteArray) : mget (F.map feM) k = (fget F k).map feV := by
  induction F with
  | nil => rfl
  | cons e F ih =>
    rw [List.map_cons, mget_cons, ih]
    unfold fget
    by_cases h : k = e.nm
    · rw [if_pos (show k = (feM e).1 from h), List.find?_cons_of_pos (by simpa using h)]; rfl
    · rw [if_neg (show ¬ k = (feM e).1 from h), List.find?_cons_of_neg (by simpa using h)]
def fat (F : List Fe) (k : ByteArray) : Fe := (fget F k).getD fz
def fhas (F : List Fe) (k : ByteArray) : Bool := (fget F k).isSome
theorem mget_fat (F : List Fe) (k : ByteArray) : (mget (F.map feM) k).getD (.agg #[.int .i64 0, .int .i64 0, .slice none 0 0]) = feV (fat F k) := by
  rw [mget_fe]
  unfold fat
  cases fget F k <;> rfl
theorem mget_fhas (F : List Fe) (k : ByteArray) : (mget (F.map feM) k).isSome = fhas F k := by
  rw [mget_fe]
  unfold fhas
  cases fget F k <;> rfl
theorem fget_mem {F : List Fe} {k : ByteArray} {e : Fe} (h : fget F k = some e) : e ∈ F ∧ e.nm = k := by
  unfold fget at h
  have h1 := List.find?_some h
  exact ⟨List.mem_of_find?_eq_some h, by simpa using (of_decide_eq_true h1).symm⟩
structure FeOK1 (e : Fe) : Prop where
  slot : 0 ≤ e.sl ∧ e.sl < 64
  size : 0 ≤ e.sz ∧ e.sz ≤ 1000000000000
  blk : In .i64 e.bl
  cap : e.bl.length ≤ e.c
  some : 0 < e.bl.length → Option.isSome e.A = true
  len : e.bl.length ≤ 1000000
def FeOK (F : List Fe) : Prop := ∀ e ∈ F, FeOK1 e
theorem FeOK.nil : FeOK [] := fun _ h => by cases h
theorem fz_ok : FeOK1 fz := ⟨⟨Int.le_refl _, by decide⟩, ⟨Int.le_refl _, by decide⟩, In.nil _, Nat.le_refl _, fun h => by simp [fz] at h, Nat.zero_le _⟩
theorem fat_ok {F : List Fe} (h : FeOK F) (k : ByteArray) : FeOK1 (fat F k) := by
  unfold fat
  cases hg : fget F k with
  | none => exact fz_ok
  | some e => exact h e (fget_mem hg).1
def FeIn (F : List Fe) (G : List Ro) : Prop := ∀ e ∈ F, (e.A, e.c, e.bl) ∈ G
theorem FeIn.nil (G : List Ro) : FeIn [] G := fun _ h => by cases h
def FAt (F : List Fe) (k : ByteArray) (sl sz : Int) (A : Option Addr) (c : Nat) (bl : List Int) : Prop := (fat F k).sl = sl ∧ (fat F k).sz = sz ∧ (fat F k).A = A ∧ (fat F k).c = c ∧ (fat F k).bl = bl
theorem FAt.tells {F : List Fe} {G : List Ro} {k : ByteArray} {sl sz : Int} {A : Option Addr} {c : Nat} {bl : List Int} (h : FAt F k sl sz A c bl) (hi : FeIn F G) : Tells (rws .i64 G) A (nums .i64 bl) := by
  obtain ⟨_, _, rfl, rfl, rfl⟩ := h
  unfold fat
  cases hg : fget F k with
  | none => exact fun w fp hp => ⟨fun _ => False, fun _ h => h.elim, fun _ h => h.elim, fun h => by simp [fz, nums] at h⟩
  | some e => exact tells_rws (hi e (fget_mem hg).1)
section
variable {X : Cx} {U : Tab} (hU : U.OK X.P) {t : Env} {D : List Fact} {φ : Env → List Fact → Prop}
include hU
theorem _root_.Go.Proofs.Ytlibhidhfbecbaa.SL.Step.lookupFe {d : Nat} {xT : TypeId} {x y : Operand} (k0 : Nat) (kt et b c n by_ : Nat) (F : List Fe) (s : ByteArray) (hty : look U.und xT = some (.map kt et)) (hkt : look U.und kt = some .string) (hti : look U.ti et = some (n, by_, .agg #[.int .i64 0, .int .i64 0, .slice none 0 0]))
    (hx : ev t x = some (.map (some b))) (hy : ev t y = some (.string s)) (hD : D[k0]? = some (mpf b (F.map feM) c)) (hF : FeOK F) (hd : Nat.ble (d + 1) X.N = true)
    (k : ∀ sl sz A cc bl, FAt F s sl sz A cc bl → (0 ≤ sl ∧ sl < 64) → (0 ≤ sz ∧ sz ≤ 1000000000000) → In .i64 bl → bl.length ≤ cc → (0 < bl.length → Option.isSome A = true) → bl.length ≤ 1000000 →
      φ (put t d (.tuple #[.agg #[.int .i64 sl, .int .i64 sz, .slice A bl.length cc], .bool (fhas F s)])) D) : Step X (some d) (.lookup xT x y true) t D φ := by
  refine Step.lookup (ok := true) hU k0 kt et b c n by_ _ (F.map feM) s hty hkt hti hx hy hD hd ?_
  have h := fat_ok hF s
  rw [if_pos rfl, mget_fat, mget_fhas]
  exact k _ _ _ _ _ ⟨rfl, rfl, rfl, rfl, rfl⟩ h.slot h.size h.blk h.cap h.some h.len
end
def fput (F : List Fe) (c : Nat) (e : Fe) : List Fe := if fhas F e.nm then F.map (fun x => if x.nm = e.nm then { e with nm := x.nm, born := x.born } else x) else F ++ [{ e with born := c }]
theorem mput_fe {F : List Fe} {c : Nat} {e : Fe} (h : ((F.map feM).map (·.1)).Nodup) : mput (F.map feM) c e.nm (feV e) = (fput F c e).map feM := by
  have hg := mget_fhas F e.nm
  unfold fput
  cases hh : fhas F e.nm with
  | true =>
    rw [mput_old h (by rw [hg, hh]), if_pos rfl, List.map_map, List.map_map]
    refine List.map_congr_left fun x _ => ?_
    simp only [Function.comp]
    by_cases hx : x.nm = e.nm
    · rw [if_pos (show (feM x).1 = e.nm from hx), if_pos hx]; rfl
    · rw [if_neg (show ¬ (feM x).1 = e.nm from hx), if_neg hx]
  | false =>
    rw [hh] at hg
    rw [mput_new (by cases h2 : mget (F.map feM) e.nm with | none => rfl | some v => rw [h2] at hg; cases hg)]
    simp only [Bool.false_eq_true, if_false, List.map_append, List.map_cons, List.map_nil]
    rfl
def fdel (F : List Fe) (k : ByteArray) : List Fe := F.filter fun e => decide (e.nm ≠ k)
theorem mdel_fe {F : List Fe} {k : ByteArray} (h : ((F.map feM).map (·.1)).Nodup) : mdel (F.map feM) k = (fdel F k).map feM := by
  rw [mdel_is h]
  unfold fdel
  rw [List.filter_map]
  rfl
theorem fput_mem {F : List Fe} {c : Nat} {e x : Fe} (h : x ∈ fput F c e) : (∃ y ∈ F, y.nm ≠ e.nm ∧ x = y) ∨ (x.nm = e.nm ∧ x.sl = e.sl ∧ x.sz = e.sz ∧ x.A = e.A ∧ x.c = e.c ∧ x.bl = e.bl) := by
  unfold fput at h
  split at h
  · obtain ⟨y, hy, rfl⟩ := List.mem_map.1 h
    by_cases hx : y.nm = e.nm
    · rw [if_pos hx]; exact .inr ⟨hx, rfl, rfl, rfl, rfl, rfl⟩
    · rw [if_neg hx]; exact .inl ⟨y, hy, hx, rfl⟩
  · rename_i hh
    rcases List.mem_append.1 h with h | h
    · by_cases hx : x.nm = e.nm
      · exfalso
        have : fget F e.nm = none := by unfold fhas at hh; cases hg : fget F e.nm with | none => rfl | some v => rw [hg] at hh; exact absurd rfl hh
        unfold fget at this
        have h2 := List.find?_eq_none.1 this x h
        exact h2 (by simpa using hx.symm)
      · exact .inl ⟨x, h, hx, rfl⟩
    · rw [List.mem_singleton] at h; subst h; exact .inr ⟨rfl, rfl, rfl, rfl, rfl, rfl⟩
theorem FeOK.put {F : List Fe} (h : FeOK F) (c : Nat) {e : Fe} (he : FeOK1 e) : FeOK (fput F c e) := fun x hx => by
  rcases fput_mem hx with ⟨y, hy, _, rfl⟩ | ⟨h1, h2, h3, h4, h5, h6⟩
  · exact h x hy
  · exact ⟨by rw [h2]; exact he.slot, by rw [h3]; exact he.size, by rw [h6]; exact he.blk, by rw [h5, h6]; exact he.cap, by rw [h4, h6]; exact he.some, by rw [h6]; exact he.len⟩
theorem FeOK.del {F : List Fe} (h : FeOK F) (k : ByteArray) : FeOK (fdel F k) := fun x hx => h x (List.mem_filter.1 hx).1
theorem FeIn.put {F : List Fe} {G : List Ro} (h : FeIn F G) (c : Nat) {e : Fe} : FeIn (fput F c e) ((e.A, e.c, e.bl) :: G) := fun x hx => by
  rcases fput_mem hx with ⟨y, hy, _, rfl⟩ | ⟨h1, h2, h3, h4, h5, h6⟩
  · exact List.mem_cons_of_mem _ (h x hy)
  · rw [h4, h5, h6]; exact List.mem_cons_self
theorem FeIn.more {F : List Fe} {G : List Ro} (h : FeIn F G) (r : Ro) : FeIn F (r :: G) := fun x hx => List.mem_cons_of_mem _ (h x hx)
theorem FeIn.del {F : List Fe} {G : List Ro} (h : FeIn F G) (k : ByteArray) : FeIn (fdel F k) G := fun x hx => h x (List.mem_filter.1 hx).1
def FMOK (F : List Fe) (c : Nat) : Prop := MOK (F.map feM) c
theorem FMOK.nil : FMOK [] 0 := MOK.nil
def fclock (F : List Fe) (c : Nat) (k : ByteArray) : Nat := if fhas F k then c else c + 1
theorem mclock_fe (F : List Fe) (c : Nat) (k : ByteArray) : mclock (F.map feM) c k = fclock F c k := by unfold mclock fclock; rw [mget_fhas]
theorem FMOK.put {F : List Fe} {c : Nat} (h : FMOK F c) (e : Fe) : FMOK (fput F c e) (fclock F c e.nm) := by
  have h1 := MOK.put h e.nm (feV e)
  rw [mput_fe h.keys, mclock_fe] at h1
  exact h1
theorem FMOK.del {F : List Fe} {c : Nat} (h : FMOK F c) (k : ByteArray) : FMOK (fdel F k) c := by
  have h1 := MOK.del h k
  rw [mdel_fe h.keys] at h1
  exact h1
section
variable {X : Cx} {U : Tab} (hU : U.OK X.P) {t : Env} {D : List Fact} {φ : Env → List Fact → Prop}
include hU
theorem _root_.Go.Proofs.Ytlibhidhfbecbaa.SL.Step.updateFe {xT : TypeId} {x y z : Operand} (k0 : Nat) (kt et b c : Nat) (F : List Fe) (s : ByteArray) (sl sz : Int) (A : Option Addr) (cc : Nat) (bl : List Int) (hty : look U.und xT = some (.map kt et)) (hkt : look U.und kt = some .string)
    (hx : ev t x = some (.map (some b))) (hy : ev t y = some (.string s)) (hz : ev t z = some (.agg #[.int .i64 sl, .int .i64 sz, .slice A bl.length cc])) (hD : D[k0]? = some (mpf b (F.map feM) c)) (hM : FMOK F c)
    (k : φ t (mpf b ((fput F c ⟨s, sl, sz, A, cc, bl, 0⟩).map feM) (fclock F c s) :: D.eraseIdx k0)) : Step X none (.mapUpdate xT x y z) t D φ := by
  refine Step.mapUpdate (ins := false) hU k0 kt et b c (F.map feM) s _ hty hkt hx hy hz hD ?_
  rw [show (Value.agg #[.int .i64 sl, .int .i64 sz, .slice A bl.length cc]) = feV ⟨s, sl, sz, A, cc, bl, 0⟩ from rfl, mput_fe (e := ⟨s, sl, sz, A, cc, bl, 0⟩) hM.keys, mclock_fe]
  exact k
theorem _root_.Go.Proofs.Ytlibhidhfbecbaa.SL.Step.deleteFe {d : Option Nat} {xT kt' : TypeId} {x y : Operand} (k0 : Nat) (kt et b c : Nat) (F : List Fe) (s : ByteArray) (hty : look U.und xT = some (.map kt et)) (hkt : look U.und kt = some .string)
    (hx : ev t x = some (.map (some b))) (hy : ev t y = some (.string s)) (hD : D[k0]? = some (mpf b (F.map feM) c)) (hM : FMOK F c) (hd : (d.map fun d => Nat.ble (d + 1) X.N).getD true = true)
    (k : φ (putO t d (.tuple #[])) (mpf b ((fdel F s).map feM) c :: D.eraseIdx k0)) : Step X d (.call { callee := .builtin .delete, args := #[x, y], argTypes := #[xT, kt'] }) t D φ := by
  refine Step.mapDelete hU k0 kt et b c (F.map feM) s hty hkt hx hy hD hd ?_
  rw [mdel_fe hM.keys]
  exact k
theorem _root_.Go.Proofs.Ytlibhidhfbecbaa.SL.Step.lenFe {d : Nat} {xT : TypeId} {x : Operand} (k0 : Nat) (kt et b c : Nat) (F : List Fe) (hty : look U.und xT = some (.map kt et)) (hx : ev t x = some (.map (some b))) (hD : D[k0]? = some (mpf b (F.map feM) c)) (hd : Nat.ble (d + 1) X.N = true)
    (k : φ (put t d (.int .i64 (F.length : Int))) D) : Step X (some d) (.call { callee := .builtin .len, args := #[x], argTypes := #[xT] }) t D φ := by
  refine Step.mapLen hU k0 kt et b c (F.map feM) hty hx hD hd ?_
  rw [List.length_map]
  exact k
end
def ite (i b c : Nat) (es : List Fe) : Fact := itf i b c (es.map (·.born)) c
section
variable {X : Cx} {U : Tab} (hU : U.OK X.P) {t : Env} {D : List Fact} {φ : Env → List Fact → Prop}
include hU
theorem _root_.Go.Proofs.Ytlibhidhfbecbaa.SL.Step.rangeFe {d : Nat} {xT : TypeId} {x : Operand} (k0 : Nat) (kt et b c : Nat) (F : List Fe) (hty : look U.und xT = some (.map kt et)) (hx : ev t x = some (.map (some b))) (hD : D[k0]? = some (mpf b (F.map feM) c)) (hd : Nat.ble (d + 1) X.N = true)
    (k : ∀ i, φ (put t d (.pointer (some ⟨i, 0, none⟩))) (ite i b c [] :: D)) : Step X (some d) (.range xT x) t D φ := Step.range hU k0 kt et b c (F.map feM) hty hx hD hd k
end
section
variable {X : Cx} {t : Env} {D : List Fact} {φ : Env → List Fact → Prop}
theorem _root_.Go.Proofs.Ytlibhidhfbecbaa.SL.Step.nextFe {d : Nat} {x : Operand} (k0 k1 i b c : Nat) (F es : List Fe) (hx : ev t x = some (.pointer (some ⟨i, 0, none⟩))) (hi : D[k0]? = some (ite i b c es)) (hm : D[k1]? = some (mpf b (F.map feM) c)) (hM : FMOK F c) (hd : Nat.ble (d + 1) X.N = true)
    (kz : (∀ e ∈ F, e.born ∈ es.map (·.born)) → φ (put t d (.tuple #[.bool false])) D)
    (ks : ∀ e, e ∈ F → e.born ∉ es.map (·.born) → φ (put t d (.tuple #[.bool true, .string e.nm, feV e])) (ite i b c (es ++ [e]) :: D.eraseIdx k0)) : Step X (some d) (.next x false) t D φ := by
  refine Step.next k0 k1 i b c (F.map feM) (es.map fun x : Fe => x.born) hx hi hm hM hd (fun h => kz fun e he => h (feM e) (List.mem_map.2 ⟨e, he, rfl⟩)) (fun e he hn => ?_)
  obtain ⟨y, hy, rfl⟩ := List.mem_map.1 he
  have h := ks y hy hn
  unfold ite at h
  rw [List.map_append] at h
  exact h
theorem _root_.Go.Proofs.Ytlibhidhfbecbaa.SL.Step.entryFe {d : Nat} {x : Operand} (k0 k1 i b c : Nat) (F es : List Fe) (e : Fe) (hx : ev t x = some (.pointer (some ⟨i, 0, none⟩))) (hi : D[k0]? = some (ite i b c (es ++ [e]))) (hm : D[k1]? = some (mpf b (F.map feM) c)) (hM : FMOK F c) (he : e ∈ F) (hd : Nat.ble (d + 1) X.N = true)
    (k : φ (put t d (.tuple #[.string e.nm, feV e])) D) : Step X (some d) (.entry x) t D φ := by
  refine Step.entry k0 k1 i b c (F.map feM) (es.map fun x : Fe => x.born) (feM e) hx ?_ hm hM (List.mem_map.2 ⟨e, he, rfl⟩) hd k
  rw [hi]
  unfold ite
  rw [List.map_append]
  rfl
end
structure MetF (F es : List Fe) : Prop where
  nd : (es.map (·.born)).Nodup
  of : ∀ e ∈ es, e ∈ F
theorem MetF.nil (F : List Fe) : MetF F [] := ⟨List.nodup_nil, fun _ h => by cases h⟩
theorem MetF.snoc {F es : List Fe} {x : Fe} (h : MetF F es) (hx : x ∈ F) (hn : x.born ∉ es.map (·.born)) : MetF F (es ++ [x]) := by
  refine ⟨?_, fun e he => ?_⟩
  · rw [List.map_append, List.nodup_append]
    refine ⟨h.nd, by simp, fun a ha b hb e => hn ?_⟩
    rw [List.map_singleton, List.mem_singleton] at hb
    rw [← hb, ← e]
    exact ha
  · rcases List.mem_append.1 he with he | he
    · exact h.of e he
    · rw [List.mem_singleton.1 he]; exact hx
theorem nodup_of_map {es : List Fe} (h : (es.map (·.born)).Nodup) : es.Nodup := by
  induction es with
  | nil => exact List.nodup_nil
  | cons e es ih =>
    rw [List.map_cons, List.nodup_cons] at h
    rw [List.nodup_cons]
    exact ⟨fun he => h.1 (List.mem_map.2 ⟨e, he, rfl⟩), ih h.2⟩
theorem FMOK.nd {F : List Fe} {c : Nat} (h : FMOK F c) : (F.map (·.born)).Nodup := by
  have h1 := h.born
  rwa [List.map_map] at h1
theorem born_inj {F : List Fe} (h : (F.map (·.born)).Nodup) {x y : Fe} (hx : x ∈ F) (hy : y ∈ F) (e : x.born = y.born) : x = y := by
  induction F with
  | nil => cases hx
  | cons f F ih =>
    rw [List.map_cons, List.nodup_cons] at h
    rcases List.mem_cons.1 hx with rfl | hx2 <;> rcases List.mem_cons.1 hy with rfl | hy2
    · rfl
    · exact absurd (List.mem_map.2 ⟨y, hy2, e.symm⟩) h.1
    · exact absurd (List.mem_map.2 ⟨x, hx2, e⟩ : y.born ∈ F.map fun x => x.born) h.1
    · exact ih h.2 hx2 hy2
theorem MetF.all {F es : List Fe} {c : Nat} (h : MetF F es) (hM : FMOK F c) (ha : ∀ e ∈ F, e.born ∈ es.map (·.born)) : es.Perm F := by
  rw [List.perm_ext_iff_of_nodup (nodup_of_map h.nd) (nodup_of_map hM.nd)]
  refine fun e => ⟨h.of e, fun he => ?_⟩
  obtain ⟨y, hy, hb⟩ := List.mem_map.1 (ha e he)
  rw [← born_inj hM.nd (h.of y hy) he hb]
  exact hy
theorem nodup_le {α : Type} : ∀ {es F : List α}, es.Nodup → (∀ e ∈ es, e ∈ F) → es.length ≤ F.length
  | [], F, _, _ => Nat.zero_le _
  | e :: es, F, h, hs => by
    obtain ⟨s, t, rfl⟩ := List.append_of_mem (hs e List.mem_cons_self)
    rw [List.nodup_cons] at h
    have := nodup_le (F := s ++ t) h.2 (fun x hx => by
      rcases List.mem_append.1 (hs x (List.mem_cons_of_mem _ hx)) with h1 | h1
      · exact List.mem_append_left _ h1
      · rcases List.mem_cons.1 h1 with rfl | h1
        · exact absurd hx h.1
        · exact List.mem_append_right _ h1)
    rw [List.length_append] at this
    rw [List.length_append, List.length_cons, List.length_cons]
    omega
theorem MetF.le {F es : List Fe} (h : MetF F es) : es.length ≤ F.length := nodup_le (nodup_of_map h.nd) h.of
theorem MetF.lt {F es : List Fe} {x : Fe} (h : MetF F es) (hx : x ∈ F) (hn : x.born ∉ es.map (·.born)) : es.length < F.length := by
  have := (h.snoc hx hn).le
  rw [List.length_append] at this
  simp at this
  omega
def namesL (F : List Fe) : List ByteArray := srtB (F.map (·.nm))
theorem srtB_perm {xs ys : List ByteArray} (h : xs.Perm ys) : srtB xs = srtB ys := by
  unfold srtB
  congr 1
  have tr : ∀ a b c : List UInt8, decide (a ≤ b) = true → decide (b ≤ c) = true → decide (a ≤ c) = true := fun a b c h1 h2 => decide_eq_true (List.le_trans (of_decide_eq_true h1) (of_decide_eq_true h2))
  have to : ∀ a b : List UInt8, (decide (a ≤ b) || decide (b ≤ a)) = true := fun a b => by
    rcases List.le_total a b with h | h <;> simp [h]
  refine List.Perm.eq_of_pairwise (le := fun a b => decide (a ≤ b) = true) (fun a b _ _ h1 h2 => List.le_antisymm (of_decide_eq_true h1) (of_decide_eq_true h2)) (List.pairwise_mergeSort tr to _) (List.pairwise_mergeSort tr to _) ?_
  exact ((List.mergeSort_perm _ _).trans (h.map _)).trans (List.mergeSort_perm _ _).symm
theorem sorted_names {F : List Fe} {xs zs : List ByteArray} (h : xs.Perm (F.map (·.nm))) (hz : zs = srtB xs) : zs = namesL F := by rw [hz, srtB_perm h, namesL]
def need (n : Int) : Int := (n + 255) / 256
theorem or_u16 {a b : Int} (ha : 0 ≤ a ∧ a < 256) (hb : 0 ≤ b ∧ b < 256) : bits2 .or .i64 a (b * 2 ^ 8) = a + 256 * b := by
  have h1 := or_add a b 8 (by omega) hb.1
  have h2 : (BitVec.ofInt 64 a ||| BitVec.ofInt 64 (b * 2 ^ 8)).toNat = a.toNat ||| (b * 2 ^ 8).toNat := by
    rw [BitVec.toNat_or, toNat_ofInt 64 a ha.1 (by omega), toNat_ofInt 64 (b * 2 ^ 8) (by omega) (by omega)]
  have h3 : bits2 .or .i64 a (b * 2 ^ 8) = IntKind.wrap .i64 (((a.toNat ||| (b * 2 ^ 8).toNat : Nat)) : Int) := congrArg (fun n : Nat => IntKind.wrap .i64 (n : Int)) h2
  rw [h3, h1, wrap_fits (k := .i64) (e := a + b * 2 ^ 8) ⟨by omega, by omega⟩]
  omega
def datN (n : Nat) : Int := if 2048 < (n : Int) / 256 - 74 then 2048 else (n : Int) / 256 - 74
def nx (bs : List Int) (a : Nat) : Int := bs.getD a 0 + 256 * bs.getD (a + 1) 0
def vb (ss : List Int) (wt : Wt) (b : Int) : List Int := seenP ss wt (42 + b)
def nxt (ss : List Int) (wt : Wt) (i : Nat) : Int := nx (vb ss wt (16 + (i / 128 : Nat))) (2 * (i % 128))
def nextL (ss : List Int) (wt : Wt) (m : Nat) : List Int := (List.range m).map (nxt ss wt)
theorem nextL_len (ss : List Int) (wt : Wt) (m : Nat) : (nextL ss wt m).length = m := by simp [nextL]
theorem nextL_snoc (ss : List Int) (wt : Wt) (m : Nat) : nextL ss wt m ++ [nxt ss wt m] = nextL ss wt (m + 1) := by simp [nextL, List.range_succ]
theorem load_step {ss : List Int} {wt : Wt} {os zs : List Int} {i v : Int} {k : Nat} (h0 : 0 ≤ i) (h1 : i < (k : Int)) (ho : os = nextL ss wt i.toNat ++ List.replicate (k - i.toNat) 0) (hz : zs = vb ss wt (16 + i / 128)) (hv : v = nx zs (2 * (i % 128)).toNat) :
    os.set i.toNat v = nextL ss wt (i + 1).toNat ++ List.replicate (k - (i + 1).toNat) 0 := by
  have h2 : v = nxt ss wt i.toNat := by
    rw [hv, hz, nxt, show ((i.toNat / 128 : Nat) : Int) = i / 128 by omega, show 2 * (i.toNat % 128) = (2 * (i % 128)).toNat by omega]
  have h3 := set_append (xs := nextL ss wt i.toNat) (m := k - i.toNat) (by omega) v
  rw [nextL_len] at h3
  rw [ho, h3, h2, nextL_snoc, show (i + 1).toNat = i.toNat + 1 by omega, show k - i.toNat - 1 = k - (i.toNat + 1) by omega]
theorem load_end {ss : List Int} {wt : Wt} {os : List Int} {i : Int} {k : Nat} (ho : os = nextL ss wt i.toNat ++ List.replicate (k - i.toNat) 0) (h : i.toNat = k) : os = nextL ss wt k := by
  rw [ho, h, Nat.sub_self, List.replicate_zero, List.append_nil]
def chainP (ns : List Int) : Nat → Int → List Bool → List Int → List Int × Bool × List Bool
  | 0, a, us, out => if a = 65535 then (out, true, us) else ([], false, us)
  | r + 1, a, us, out => if a = 65535 then (out, false, us) else if a - 1 < 0 ∨ (ns.length : Int) ≤ a - 1 ∨ us.getD (a - 1).toNat false = true then ([], false, us)
      else chainP ns r (ns.getD (a - 1).toNat 0) (us.set (a - 1).toNat true) (out ++ [a - 1])
section
variable {ns out out0 : List Int} {us us0 : List Bool} {r m : Nat} {a a0 : Int}
theorem chain_last (h : chainP ns m a0 us0 [] = chainP ns (m - out.length) a us out) (ho : out.length ≤ m) (ha : a = 65535) : (out, decide (out.length = m), us) = chainP ns m a0 us0 [] := by
  rw [h]
  cases hr : m - out.length with
  | zero => rw [chainP, if_pos ha, decide_eq_true (by omega)]
  | succ r => rw [chainP, if_pos ha, decide_eq_false (by omega)]
theorem chain_stop (h : chainP ns m a0 us0 [] = chainP ns (m - out.length) a us out) (ho : out.length ≤ m) (ha : ¬ a = 65535) (hb : a - 1 < 0 ∨ (ns.length : Int) ≤ a - 1 ∨ us.getD (a - 1).toNat false = true ∨ out.length = m) : ([], false, us) = chainP ns m a0 us0 [] := by
  rw [h]
  cases hr : m - out.length with
  | zero => rw [chainP, if_neg ha]
  | succ r =>
    rw [chainP, if_neg ha, if_pos]
    rcases hb with hb | hb | hb | hb
    · exact .inl hb
    · exact .inr (.inl hb)
    · exact .inr (.inr hb)
    · omega
theorem chain_step (h : chainP ns m a0 us0 [] = chainP ns (m - out.length) a us out) (ho : out.length < m) (ha : ¬ a = 65535) (h1 : ¬ a - 1 < 0) (h2 : ¬ (ns.length : Int) ≤ a - 1) (h3 : us.getD (a - 1).toNat false = false) :
    chainP ns m a0 us0 [] = chainP ns (m - (out ++ [a - 1]).length) (ns.getD (a - 1).toNat 0) (us.set (a - 1).toNat true) (out ++ [a - 1]) := by
  rw [h, show m - out.length = (m - (out ++ [a - 1]).length) + 1 by rw [List.length_append]; simp; omega, chainP, if_neg ha, if_neg]
  rw [h3]
  rintro (g | g | g)
  · exact h1 g
  · exact h2 g
  · cases g
end
def fcon (F : List Fe) : List (ByteArray × Int × Int × List Int) := F.map fun e => (e.nm, e.sl, e.sz, e.bl)
def szB (bs : List Int) : Int := leN (bs.drop 44) 4
def nmB (bs : List Int) : ByteArray := strOfNums ((bs.drop 1).take (bs.getD 0 0).toNat)
def slotP (ns : List Int) (F : List Fe) (us : List Bool) (bs : List Int) : ByteArray × Int × List Int × Bool × List Bool :=
  if bs.getD 0 0 > 40 ∨ szB bs > 524288 then (⟨#[]⟩, 0, [], false, us)
  else (nmB bs, szB bs, (chainP ns (need (szB bs)).toNat (nx bs 48) us []).1, (chainP ns (need (szB bs)).toNat (nx bs 48) us []).2.1 && !fhas F (nmB bs), (chainP ns (need (szB bs)).toNat (nx bs 48) us []).2.2)
theorem first_bd {bs : List Int} (h : In .u8 bs) (i j : Nat) : 0 ≤ bits2 .or .i64 (bs.getD i 0) (bs.getD j 0 * 2 ^ 8) ∧ bits2 .or .i64 (bs.getD i 0) (bs.getD j 0 * 2 ^ 8) < 65536 := by
  have h1 : 0 ≤ bs.getD i 0 ∧ bs.getD i 0 < 256 := h.at_ i
  have h2 : 0 ≤ bs.getD j 0 ∧ bs.getD j 0 < 256 := h.at_ j
  rw [or_u16 h1 h2]
  omega
section
variable {ns zs bs us' : List Int} {F : List Fe} {us us2 : List Bool} {ok : Bool} {v a : Int} {nm : ByteArray}
theorem slot_bad (h : bs.getD 0 0 > 40 ∨ szB bs > 524288) : (⟨#[]⟩, 0, [], false, us) = slotP ns F us bs := by rw [slotP, if_pos h]
theorem slot_no (h : ¬ (bs.getD 0 0 > 40 ∨ szB bs > 524288)) (hc : (zs, ok, us2) = chainP ns (need v).toNat a us []) (hv : v = szB bs) (ha : a = nx bs 48) (hn : nm = nmB bs) (hf : fhas F nm = true) : (nm, v, zs, false, us2) = slotP ns F us bs := by
  subst hv ha hn
  rw [slotP, if_neg h, ← hc, hf]
  simp
theorem slot_yes (h : ¬ (bs.getD 0 0 > 40 ∨ szB bs > 524288)) (hc : (zs, ok, us2) = chainP ns (need v).toNat a us []) (hv : v = szB bs) (ha : a = nx bs 48) (hn : nm = nmB bs) (hf : fhas F nm = false) : (nm, v, zs, ok, us2) = slotP ns F us bs := by
  subst hv ha hn
  rw [slotP, if_neg h, ← hc, hf]
  simp
theorem nm_is {zs bs : List Int} (h : zs = (bs.drop 1).take ((1 + bs.getD 0 0).toNat - 1)) : strOfNums zs = nmB bs := by
  rw [h, nmB, show (1 + bs.getD 0 0).toNat - 1 = (bs.getD 0 0).toNat by omega]
theorem sz_is {zs bs : List Int} {v : Int} (hl : bs.length = 64) (h : zs = (bs.drop 44).take (bs.length - 44)) (hv : v = leN zs 4) : v = szB bs := by
  rw [hv, h, szB, List.take_of_length_le (by rw [List.length_drop]; exact Nat.le_refl _)]
end
abbrev Con := List (ByteArray × Int × Int × List Int)
def chas (C : Con) (k : ByteArray) : Bool := C.any fun e => decide (k = e.1)
theorem chas_fe (F : List Fe) (k : ByteArray) : chas (fcon F) k = fhas F k := by
  unfold chas fcon fhas fget
  induction F with
  | nil => rfl
  | cons e F ih =>
    rw [List.map_cons, List.any_cons, ih]
    by_cases h : k = e.nm
    · rw [List.find?_cons_of_pos (by simpa using h)]; simp [h]
    · rw [List.find?_cons_of_neg (by simpa using h)]; simp [h]
def slotC (ns : List Int) (C : Con) (us : List Bool) (bs : List Int) : ByteArray × Int × List Int × Bool × List Bool :=
  if bs.getD 0 0 > 40 ∨ szB bs > 524288 then (⟨#[]⟩, 0, [], false, us)
  else (nmB bs, szB bs, (chainP ns (need (szB bs)).toNat (nx bs 48) us []).1, (chainP ns (need (szB bs)).toNat (nx bs 48) us []).2.1 && !chas C (nmB bs), (chainP ns (need (szB bs)).toNat (nx bs 48) us []).2.2)
theorem slotP_C (ns : List Int) (F : List Fe) (us : List Bool) (bs : List Int) : slotP ns F us bs = slotC ns (fcon F) us bs := by
  unfold slotP slotC
  rw [chas_fe]
theorem slotC_free {ns bs : List Int} {C : Con} {us : List Bool} (h : (slotC ns C us bs).2.2.2.1 = true) : chas C (slotC ns C us bs).1 = false := by
  unfold slotC at h ⊢
  split at h
  · cases h
  · rename_i hn
    rw [if_neg hn]
    simp only [Bool.and_eq_true, Bool.not_eq_true'] at h
    exact h.2
def entB (ss : List Int) (wt : Wt) (i : Int) : List Int := ((vb ss wt (i / 4)).drop (64 * (i % 4)).toNat).take 64
def openS (ss : List Int) (wt : Wt) (ns : List Int) : Nat → Option (Con × List Bool)
  | 0 => some ([], List.replicate ns.length false)
  | i + 1 => match openS ss wt ns i with
    | none => none
    | some (C, us) => if (entB ss wt i).getD 0 0 = 0 then some (C, us)
      else if (slotC ns C us (entB ss wt i)).2.2.2.1 = true then some (C ++ [((slotC ns C us (entB ss wt i)).1, (i : Int), (slotC ns C us (entB ss wt i)).2.1, (slotC ns C us (entB ss wt i)).2.2.1)], (slotC ns C us (entB ss wt i)).2.2.2.2) else none
theorem openS_none {ss ns : List Int} {wt : Wt} {i : Nat} (h : openS ss wt ns i = none) : ∀ m, i ≤ m → openS ss wt ns m = none
  | 0, hm => by rw [show 0 = i by omega]; exact h
  | m + 1, hm => by
    rcases Nat.lt_or_ge m i with h1 | h1
    · rw [show m + 1 = i by omega]; exact h
    · rw [openS, openS_none h m h1]
def tabOK (ns : List Int) (us : List Bool) (k : Nat) : Prop := ∀ i, i < k → (ns.getD i 0 ≠ 0 ↔ us.getD i false = true)
def OpenOK (ss : List Int) (wt : Wt) (n : Nat) (C : Con) : Prop := ∃ us, openS ss wt (nextL ss wt (datN n).toNat) 64 = some (C, us) ∧ tabOK (nextL ss wt (datN n).toNat) us (datN n).toNat
theorem OpenOK.same {ss : List Int} {wt : Wt} {n : Nat} {C C2 : Con} (h : OpenOK ss wt n C) (h2 : OpenOK ss wt n C2) : C = C2 := by
  obtain ⟨u, h3, _⟩ := h
  obtain ⟨u2, h4, _⟩ := h2
  rw [h3] at h4
  cases h4
  rfl
theorem fcon_put {F : List Fe} {c : Nat} {e : Fe} (h : fhas F e.nm = false) : fcon (fput F c e) = fcon F ++ [(e.nm, e.sl, e.sz, e.bl)] := by
  unfold fput
  rw [h]
  simp [fcon]
section
variable {ss ns zs bs : List Int} {wt : Wt} {F : List Fe} {us us2 : List Bool} {ok : Bool} {sz sl i : Int} {nm : ByteArray} {fc : Nat}
theorem open_skip (h0 : 0 ≤ i) (h : openS ss wt ns i.toNat = some (fcon F, us)) (hb : bs = entB ss wt i) (hz : bs.getD 0 0 = 0) : openS ss wt ns (i + 1).toNat = some (fcon F, us) := by
  rw [show (i + 1).toNat = i.toNat + 1 by omega, openS, h]
  simp only
  rw [Int.toNat_of_nonneg h0, ← hb, if_pos hz]
theorem open_put (h0 : 0 ≤ i) (h : openS ss wt ns i.toNat = some (fcon F, us)) (hb : bs = entB ss wt i) (hz : ¬ bs.getD 0 0 = 0) (hs : (nm, sz, zs, ok, us2) = slotP ns F us bs) (hk : ok = true) (hsl : sl = i) {A : Option Addr} {c : Nat} : openS ss wt ns (i + 1).toNat = some (fcon (fput F fc ⟨nm, sl, sz, A, c, zs, 0⟩), us2) := by
  have h1 : (slotC ns (fcon F) us bs).2.2.2.1 = true := by rw [← slotP_C, ← hs]; exact hk
  have h2 := slotC_free h1
  rw [← slotP_C, ← hs, chas_fe] at h2
  rw [fcon_put (e := ⟨nm, sl, sz, A, c, zs, 0⟩) h2, show (i + 1).toNat = i.toNat + 1 by omega, openS, h]
  simp only
  rw [Int.toNat_of_nonneg h0, ← hb, if_neg hz, if_pos h1, ← slotP_C, ← hs, hsl]
theorem open_bad (h0 : 0 ≤ i) (h64 : i < 64) (h : openS ss wt ns i.toNat = some (fcon F, us)) (hb : bs = entB ss wt i) (hz : ¬ bs.getD 0 0 = 0) (hs : (nm, sz, zs, ok, us2) = slotP ns F us bs) (hk : ¬ ok = true) : openS ss wt ns 64 = none := by
  refine openS_none (i := i.toNat + 1) ?_ 64 (by omega)
  rw [openS, h]
  simp only
  rw [Int.toNat_of_nonneg h0, ← hb, if_neg hz, if_neg]
  rw [← slotP_C, ← hs]
  exact hk
theorem ent_is {z1 z2 : List Int} (h0 : 0 ≤ i) (hz : zs = vb ss wt (i / 4)) (hl : zs.length = 256) (h1 : z1 = (zs.drop (64 * (i % 4)).toNat).take (zs.length - (64 * (i % 4)).toNat)) (h2 : z2 = z1.take 64) : z2 = entB ss wt i := by
  rw [h2, h1, hl, hz, entB, List.take_take, Nat.min_eq_left (by omega)]
end
theorem datN_bd (n : Nat) : datN n ≤ 2048 ∧ datN n ≤ (n : Int) / 256 - 74 := by unfold datN; split <;> omega
theorem nx_bd {bs : List Int} (h : In .u8 bs) (a : Nat) : 0 ≤ nx bs a ∧ nx bs a < 65536 := by
  have h1 : 0 ≤ bs.getD a 0 ∧ bs.getD a 0 < 256 := h.at_ a
  have h2 : 0 ≤ bs.getD (a + 1) 0 ∧ bs.getD (a + 1) 0 < 256 := h.at_ (a + 1)
  unfold nx
  omega
theorem tab_bad {ns : List Int} {us : List Bool} {k : Nat} {i : Int} (h : ¬ (ns.getD i.toNat 0 ≠ 0 ↔ us.getD i.toNat false = true)) (hi : i.toNat < k) : ¬ tabOK ns us k := fun g => h (g i.toNat hi)
theorem tab_step {ns : List Int} {us : List Bool} {i : Int} (h0 : 0 ≤ i) (h : tabOK ns us i.toNat) (h2 : ns.getD i.toNat 0 ≠ 0 ↔ us.getD i.toNat false = true) : tabOK ns us (i + 1).toNat := fun j hj => by
  rcases Nat.lt_or_ge j i.toNat with h3 | h3
  · exact h j h3
  · rw [show j = i.toNat by omega]; exact h2
theorem open_no {ss : List Int} {wt : Wt} {n : Nat} (h : openS ss wt (nextL ss wt (datN n).toNat) 64 = none) (C : Con) : ¬ OpenOK ss wt n C := by
  rintro ⟨us, h2, _⟩
  rw [h] at h2
  cases h2
theorem open_tab {ss : List Int} {wt : Wt} {n : Nat} {C0 : Con} {us : List Bool} (h : openS ss wt (nextL ss wt (datN n).toNat) 64 = some (C0, us)) (h2 : ¬ tabOK (nextL ss wt (datN n).toNat) us (datN n).toNat) (C : Con) : ¬ OpenOK ss wt n C := by
  rintro ⟨u2, h3, h4⟩
  rw [h] at h3
  cases h3
  exact h2 h4
theorem seen_in {ss : List Int} {ws : List Ch} (h : In .u8 ss) (hw : ChOK .u8 ws) (b : Int) : In .u8 (seenP ss (dat ws) b) := by
  unfold seenP
  split
  · rename_i r hr
    have h1 := List.mem_of_find?_eq_some hr
    obtain ⟨x, hx, rfl⟩ := List.mem_map.1 (List.mem_reverse.1 h1)
    exact (hw x hx).2.1
  · exact (h.drop _).take _
theorem nextL_bd {ss : List Int} {ws : List Ch} (h : In .u8 ss) (hw : ChOK .u8 ws) (m : Nat) : Bnd 0 65536 (nextL ss (dat ws) m) := by
  refine ⟨by decide, by decide, fun x hx => ?_⟩
  obtain ⟨i, _, rfl⟩ := List.mem_map.1 hx
  exact nx_bd (seen_in h hw _) _
theorem tab_iff {x : Int} {u : Bool} (h : (!((!decide (x = 0)) == u)) = false) : x ≠ 0 ↔ u = true := by
  by_cases h0 : x = 0 <;> cases u <;> simp_all
theorem tab_not {x : Int} {u : Bool} (h : (!((!decide (x = 0)) == u)) = true) : ¬ (x ≠ 0 ↔ u = true) := by
  by_cases h0 : x = 0 <;> cases u <;> simp_all
theorem ent0 {z1 z2 : List Int} (h : z2 = z1.take 64) : z2.getD 0 0 = z1.getD 0 0 := by
  rw [h, List.getD_eq_getElem?_getD, List.getD_eq_getElem?_getD, List.getElem?_take_of_lt (by decide)]
theorem tab_eq {ns : List Int} {us : List Bool} {k k2 : Nat} (h : tabOK ns us k) (e : k = k2) : tabOK ns us k2 := e ▸ h
theorem not_t {b : Bool} (h : (!b) = true) : ¬ b = true := by cases b <;> simp_all
theorem chain_good {ns : List Int} : ∀ {m : Nat} {a : Int} {us us2 : List Bool} {out zs : List Int}, (zs, true, us2) = chainP ns m a us out → (∀ i ∈ out, 0 ≤ i ∧ i < (ns.length : Int)) → zs.length = out.length + m ∧ ∀ i ∈ zs, 0 ≤ i ∧ i < (ns.length : Int)
  | 0, a, us, us2, out, zs, h, ho => by
    rw [chainP] at h
    split at h
    · cases h; exact ⟨by omega, ho⟩
    · cases h
  | m + 1, a, us, us2, out, zs, h, ho => by
    rw [chainP] at h
    split at h
    · cases h
    · split at h
      · cases h
      · rename_i hn
        have := chain_good h (fun i hi => by
          rcases List.mem_append.1 hi with hi | hi
          · exact ho i hi
          · rw [List.mem_singleton] at hi
            subst hi
            omega)
        rw [List.length_append] at this
        simp at this
        exact ⟨by omega, this.2⟩
def FeBl (F : List Fe) (k : Int) : Prop := ∀ e ∈ F, (∀ i ∈ e.bl, 0 ≤ i ∧ i < k) ∧ (e.bl.length : Int) = need e.sz
theorem FeBl.nil (k : Int) : FeBl [] k := fun _ h => by cases h
theorem FeBl.put {F : List Fe} {k : Int} (h : FeBl F k) (c : Nat) {e : Fe} (h1 : ∀ i ∈ e.bl, 0 ≤ i ∧ i < k) (h2 : (e.bl.length : Int) = need e.sz) : FeBl (fput F c e) k := fun x hx => by
  rcases fput_mem hx with ⟨y, hy, _, rfl⟩ | ⟨_, _, g3, _, _, g6⟩
  · exact h x hy
  · rw [g6, g3]; exact ⟨h1, h2⟩
theorem FeBl.del {F : List Fe} {j : Int} (h : FeBl F j) (k : ByteArray) : FeBl (fdel F k) j := fun x hx => h x (List.mem_filter.1 hx).1
theorem slot_blk {ns zs bs : List Int} {F : List Fe} {us us2 : List Bool} {ok : Bool} {sz : Int} {nm : ByteArray} (h : (nm, sz, zs, ok, us2) = slotP ns F us bs) (hk : ok = true) (hb : In .u8 bs) : (∀ i ∈ zs, 0 ≤ i ∧ i < (ns.length : Int)) ∧ (zs.length : Int) = need sz := by
  subst hk
  unfold slotP at h
  split at h
  · cases h
  · have h2 : sz = szB bs := congrArg (fun r => r.2.1) h
    have h3 : zs = (chainP ns (need (szB bs)).toNat (nx bs 48) us []).1 := congrArg (fun r => r.2.2.1) h
    have h4 : true = ((chainP ns (need (szB bs)).toNat (nx bs 48) us []).2.1 && !fhas F (nmB bs)) := congrArg (fun r => r.2.2.2.1) h
    have h5 := (Bool.and_eq_true_iff.1 h4.symm).1
    have h6 : (zs, true, (chainP ns (need (szB bs)).toNat (nx bs 48) us []).2.2) = chainP ns (need (szB bs)).toNat (nx bs 48) us [] := by rw [h3, ← h5]
    obtain ⟨h7, h8⟩ := chain_good h6 (fun i hi => by cases hi)
    refine ⟨h8, ?_⟩
    have h9 := (leN_bd (hb.drop 44) 4).1
    rw [h7, h2]
    unfold need szB
    simp only [List.length_nil]
    omega
theorem fat_bl {F : List Fe} {k : Int} (h : FeBl F k) (nm : ByteArray) : (∀ i ∈ (fat F nm).bl, 0 ≤ i ∧ i < k) ∧ ((fat F nm).bl.length : Int) = need (fat F nm).sz := by
  unfold fat
  cases hg : fget F nm with
  | none => exact ⟨fun i hi => (by simp [fz] at hi), rfl⟩
  | some e => exact h e (fget_mem hg).1
def datB (ss : List Int) (wt : Wt) (bl : List Int) : List Int := bl.flatMap fun i => vb ss wt (32 + i)
def datF (ss : List Int) (wt : Wt) (bl : List Int) (sz : Int) : List Int := (datB ss wt bl).take sz.toNat
section
variable {ss os zs bl : List Int} {wt : Wt} {F : List Fe} {nm : ByteArray} {sl sz i k : Int} {A : Option Addr} {c : Nat}
theorem FAt.blk (h : FAt F nm sl sz A c bl) (hb : FeBl F k) : (∀ i ∈ bl, 0 ≤ i ∧ i < k) ∧ (bl.length : Int) = need sz := by
  obtain ⟨_, rfl, _, _, rfl⟩ := h
  exact fat_bl hb nm
theorem bl_at {b : Int} (h : ∀ i ∈ bl, 0 ≤ i ∧ i < k) (h0 : 0 ≤ i) (hi : i < (bl.length : Int)) (hb : b = bl.getD i.toNat 0) : 0 ≤ b ∧ b < k := by
  have h1 : i.toNat < bl.length := by omega
  rw [hb, List.getD_eq_getElem?_getD, List.getElem?_eq_getElem h1]
  exact h _ (List.getElem_mem h1)
theorem dat_step {j : Int} (h0 : 0 ≤ i) (hi : i < (bl.length : Int)) (ho : os = datB ss wt (bl.take i.toNat)) (hj : j = bl.getD i.toNat 0) (hz : zs = vb ss wt (32 + j)) : os ++ zs = datB ss wt (bl.take (i + 1).toNat) := by
  have h1 : i.toNat < bl.length := by omega
  rw [show (i + 1).toNat = i.toNat + 1 by omega, List.take_succ_eq_append_getElem h1, ho, hz, hj, List.getD_eq_getElem?_getD, List.getElem?_eq_getElem h1, datB, datB, List.flatMap_append, List.flatMap_cons, List.flatMap_nil, List.append_nil]
  rfl
theorem dat_end (ho : os = datB ss wt (bl.take i.toNat)) (hi : i.toNat = bl.length) : os.take sz.toNat = datF ss wt bl sz := by
  rw [ho, hi, List.take_length, datF]
end
def readF (ss : List Int) (wt : Wt) (F : List Fe) (nm : ByteArray) : Int × List Int := if fhas F nm then (0, datF ss wt (fat F nm).bl (fat F nm).sz) else (4, [])
theorem read_no {ss : List Int} {wt : Wt} {F : List Fe} {nm : ByteArray} (h : fhas F nm = false) : (4, []) = readF ss wt F nm := by rw [readF, h]; rfl
theorem read_yes {ss zs : List Int} {wt : Wt} {F : List Fe} {nm : ByteArray} {sl sz : Int} {A : Option Addr} {c : Nat} {bl : List Int} (h : fhas F nm = true) (ha : FAt F nm sl sz A c bl) (hz : zs = datF ss wt bl sz) : (0, zs) = readF ss wt F nm := by
  obtain ⟨_, rfl, _, _, rfl⟩ := ha
  rw [readF, h, hz]
  rfl
def frP (ns : List Int) (k : Nat) : List Int := ((List.range k).filter fun i => decide (ns.getD i 0 = 0)).map fun (i : Nat) => (i : Int)
def frL (ns : List Int) : List Int := frP ns ns.length
theorem frP_succ (ns : List Int) (k : Nat) : frP ns (k + 1) = if ns.getD k 0 = 0 then frP ns k ++ [(k : Int)] else frP ns k := by
  unfold frP
  rw [List.range_succ, List.filter_append, List.map_append]
  split
  · rename_i h; rw [List.filter_cons_of_pos (by simpa using h)]; rfl
  · rename_i h; rw [List.filter_cons_of_neg (by simpa using h)]; simp
theorem frP_pre (ns : List Int) : ∀ (m k : Nat), k ≤ m → ∃ r, frP ns m = frP ns k ++ r
  | 0, k, h => ⟨[], by rw [show k = 0 by omega]; simp⟩
  | m + 1, k, h => by
    rcases Nat.lt_or_ge m k with h1 | h1
    · exact ⟨[], by rw [show k = m + 1 by omega]; simp⟩
    · obtain ⟨r, hr⟩ := frP_pre ns m k h1
      rw [frP_succ, hr]
      split
      · exact ⟨r ++ [(m : Int)], by simp⟩
      · exact ⟨r, rfl⟩
section
variable {ns : List Int} {i : Int} {q : Nat}
theorem fr_at (h0 : 0 ≤ i) (hi : i < (ns.length : Int)) (hz : ns.getD i.toNat 0 = 0) (hq : q = (frP ns i.toNat).length) : (frL ns).getD q 0 = i ∧ q < (frL ns).length := by
  obtain ⟨r, hr⟩ := frP_pre ns ns.length (i.toNat + 1) (by omega)
  rw [frP_succ, if_pos hz] at hr
  unfold frL
  rw [hr, hq]
  refine ⟨?_, by simp⟩
  rw [List.append_assoc, List.getD_eq_getElem?_getD, List.getElem?_append_right (Nat.le_refl _), Nat.sub_self]
  simp [Int.toNat_of_nonneg h0]
theorem fr_put (h0 : 0 ≤ i) (hz : ns.getD i.toNat 0 = 0) (hq : q = (frP ns i.toNat).length) : q + 1 = (frP ns (i + 1).toNat).length := by
  rw [show (i + 1).toNat = i.toNat + 1 by omega, frP_succ, if_pos hz, List.length_append, hq]
  rfl
theorem fr_skip (h0 : 0 ≤ i) (hz : ¬ ns.getD i.toNat 0 = 0) (hq : q = (frP ns i.toNat).length) : q = (frP ns (i + 1).toNat).length := by
  rw [show (i + 1).toNat = i.toNat + 1 by omega, frP_succ, if_neg hz, hq]
theorem fr_all (hq : q = (frP ns i.toNat).length) (h : i.toNat = ns.length) : q = (frL ns).length := by rw [hq, h, frL]
end
theorem fr_take {ns os : List Int} {i : Nat} (h : os = (frL ns).take i) (hi : i < (frL ns).length) : os ++ [(frL ns).getD i 0] = (frL ns).take (i + 1) := by
  rw [h, List.take_succ_eq_append_getElem hi, List.getD_eq_getElem?_getD, List.getElem?_eq_getElem hi]; rfl
theorem fr_in {ns : List Int} (h : ns.length ≤ 2048) (n : Nat) : In .i64 ((frL ns).take n) := fun x hx => by
  have h1 := List.mem_of_mem_take hx
  obtain ⟨i, hi, rfl⟩ := List.mem_map.1 h1
  have h2 := List.mem_range.1 (List.mem_filter.1 hi).1
  simp only [fits]
  omega
theorem frP_le (ns : List Int) (k : Nat) : (frP ns k).length ≤ k := by
  unfold frP
  rw [List.length_map]
  exact Nat.le_trans (List.length_filter_le _ _) (by simp)
abbrev Ca := ByteArray × Bool × List Int
def ca (l : List Fc) : List Ca := l.map fun r => (r.1, r.2.1, r.2.2.2.2)
theorem ca_len (l : List Fc) : (ca l).length = l.length := List.length_map _
theorem ca_get {l : List Fc} {i : Nat} {nm : ByteArray} {g : Bool} {A : Option Addr} {c : Nat} {x : List Int} (h : l[i]? = some (nm, g, A, c, x)) : (ca l)[i]? = some (nm, g, x) := by simp [ca, h]
def nin (l : List Ca) (k : ByteArray) : Bool := l.any fun r => decide (k = r.1)
theorem nin_snoc (l : List Ca) (r : Ca) (k : ByteArray) : nin (l ++ [r]) k = (nin l k || decide (k = r.1)) := by simp [nin]
def badN (l : List Ca) (i : Nat) (nm : ByteArray) : Prop := nm.size < 1 ∨ 40 < nm.size ∨ nin (l.take i) nm = true
instance (l : List Ca) (i : Nat) (nm : ByteArray) : Decidable (badN l i nm) := by unfold badN; exact inferInstance
def mayS (C : Con) (l : List Ca) : Nat → Option (Int × Int × Bool)
  | 0 => some (C.length, 0, false)
  | i + 1 => match mayS C l i, l[i]? with
    | none, _ => none
    | some s, none => some s
    | some (f, b, m), some (nm, g, x) => if badN l i nm then none
      else if g = true then (if chas C nm = true then some (f - 1, b, m) else some (f, b, true))
      else some (if chas C nm = true then f else f + 1, b + need x.length, m)
theorem mayS_0 {F : List Fe} {l : List Ca} : mayS (fcon F) l (0 : Int).toNat = some (((F.length : Nat) : Int), 0, false) := by rw [show (0 : Int).toNat = 0 from rfl, mayS, show (fcon F).length = F.length from List.length_map _]
def mayF (C : Con) (l : List Ca) (fr : Int) : Int := match mayS C l l.length with
  | none => 1
  | some (f, b, m) => if m = true then 4 else if 64 < f then 3 else if fr < b then 2 else 0
theorem mayS_none {C : Con} {l : List Ca} {i : Nat} (h : mayS C l i = none) : ∀ m, i ≤ m → mayS C l m = none
  | 0, hm => by rw [show 0 = i by omega]; exact h
  | m + 1, hm => by
    rcases Nat.lt_or_ge m i with h1 | h1
    · rw [show m + 1 = i by omega]; exact h
    · rw [mayS, mayS_none h m h1]
def SeenI (L : List Im) (l : List Ca) (i : Nat) : Prop := ∀ k, iget L k = if nin (l.take i) k = true then 1 else 0
theorem SeenI.nil (l : List Ca) : SeenI [] l 0 := fun k => by simp [iget, nin]
theorem SeenI.bd {L : List Im} {l : List Ca} {i : Nat} (h : SeenI L l i) (k : ByteArray) : 0 ≤ iget L k ∧ iget L k ≤ 1 := by rw [h k]; split <;> omega
section
variable {C : Con} {l : List Ca} {i : Int} {f b : Int} {m g : Bool} {nm : ByteArray} {x : List Int} {L : List Im} {c : Nat} {F : List Fe}
theorem seen_gt (h : SeenI L l i.toNat) (hM : IMOK L c) : (iget (iput L c nm (iget L nm + 1)) nm > 1) ↔ nin (l.take i.toNat) nm = true := by
  rw [iget_put hM, if_pos rfl, h nm]
  split <;> simp_all
theorem SeenI.step (h : SeenI L l i.toNat) (hM : IMOK L c) (h0 : 0 ≤ i) (hg : l[i.toNat]? = some (nm, g, x)) (hn : ¬ iget (iput L c nm (iget L nm + 1)) nm > 1) : SeenI (iput L c nm (iget L nm + 1)) l (i + 1).toNat := fun k => by
  have h2 : ¬ nin (l.take i.toNat) nm = true := fun e => hn ((seen_gt h hM).2 e)
  have e : l.take (i + 1).toNat = l.take i.toNat ++ [(nm, g, x)] := by
    rw [show (i + 1).toNat = i.toNat + 1 by omega, List.take_add_one, hg]; simp
  rw [iget_put hM, e, nin_snoc, h nm, if_neg h2]
  by_cases hk : k = nm
  · rw [if_pos hk, if_pos (by simp [hk])]; rfl
  · rw [if_neg hk, h k]
    simp [hk]
theorem may_arg {fr : Int} (h : mayS C l i.toNat = some (f, b, m)) (hg : l[i.toNat]? = some (nm, g, x)) (hb : badN l i.toNat nm) : 1 = mayF C l fr := by
  have h1 : mayS C l (i.toNat + 1) = none := by rw [mayS, h, hg]; simp only; rw [if_pos hb]
  rw [mayF, mayS_none h1 _ (by have := (List.getElem?_eq_some_iff.1 hg).1; omega)]
theorem may_step {r : Int × Int × Bool} (h0 : 0 ≤ i) (h : mayS C l i.toNat = some (f, b, m)) (hg : l[i.toNat]? = some (nm, g, x)) (hb : ¬ badN l i.toNat nm)
    (hr : r = if g = true then (if chas C nm = true then (f - 1, b, m) else (f, b, true)) else (if chas C nm = true then f else f + 1, b + need x.length, m)) : mayS C l (i + 1).toNat = some r := by
  rw [show (i + 1).toNat = i.toNat + 1 by omega, mayS, h, hg]
  simp only
  rw [if_neg hb, hr]
  split
  · split <;> rfl
  · rfl
theorem may_end {fr : Int} (h : mayS C l i.toNat = some (f, b, m)) (hi : i.toNat = l.length) : (if m = true then 4 else if 64 < f then 3 else if fr < b then 2 else 0) = mayF C l fr := by rw [mayF, ← hi, h]
end
def slotsOf (es : List Fe) : List Bool := es.foldl (fun s e => s.set e.sl.toNat true) (List.replicate 64 false)
theorem bnd_in {xs : List Int} (h : Bnd 0 65536 xs) : In .i64 xs := fun x hx => by have := h.all x hx; simp only [fits]; omega
theorem slotsOf_snoc (es : List Fe) (e : Fe) : slotsOf (es ++ [e]) = (slotsOf es).set e.sl.toNat true := by simp [slotsOf]
theorem slotsOf_len (es : List Fe) : (slotsOf es).length = 64 := by
  have : ∀ (l : List Fe) (s : List Bool), (l.foldl (fun s e => s.set e.sl.toNat true) s).length = s.length := fun l => by
    induction l with
    | nil => intro s; rfl
    | cons e l ih => intro s; rw [List.foldl_cons, ih, List.length_set]
  rw [slotsOf, this]; rfl
def SlOK (sl : List Bool) (F : List Fe) : Prop := ∀ i : Nat, i < 64 → (sl.getD i false = true ↔ ∃ e ∈ F, e.sl = (i : Int))
theorem slotsOf_ok {F : List Fe} (h : FeOK F) : ∀ n, SlOK (slotsOf (F.take n)) (F.take n)
  | 0 => fun i hi => by
    rw [List.take_zero]
    simp only [slotsOf, List.foldl_nil, List.not_mem_nil, false_and, exists_false, iff_false]
    rw [List.getD_eq_getElem?_getD, List.getElem?_replicate]
    split <;> simp
  | n + 1 => fun i hi => by
    rw [List.take_add_one]
    cases hg : F[n]? with
    | none => simpa using slotsOf_ok h n i hi
    | some e =>
      have he := (h e (List.mem_of_getElem? hg)).slot
      have ih := slotsOf_ok h n i hi
      rw [Option.toList_some, slotsOf_snoc]
      by_cases hi2 : i = e.sl.toNat
      · subst hi2
        rw [List.getD_eq_getElem?_getD, List.getElem?_set_self (by rw [slotsOf_len]; exact hi)]
        simp only [Option.getD_some, true_iff]
        exact ⟨e, List.mem_append_right _ (List.mem_singleton.2 rfl), (Int.toNat_of_nonneg he.1).symm⟩
      · rw [List.getD_eq_getElem?_getD, List.getElem?_set_ne (fun e2 => hi2 e2.symm), ← List.getD_eq_getElem?_getD, ih]
        constructor
        · rintro ⟨x, hx, hxe⟩; exact ⟨x, List.mem_append_left _ hx, hxe⟩
        · rintro ⟨x, hx, hxe⟩
          rcases List.mem_append.1 hx with hx | hx
          · exact ⟨x, hx, hxe⟩
          · have h4 := List.mem_singleton.1 hx
            rw [h4] at hxe
            exact (hi2 (by rw [hxe]; rfl)).elim
theorem slots_all {F es : List Fe} (h : FeOK F) (hp : es.Perm F) : SlOK (slotsOf es) F := fun i hi => by
  have h2 := slotsOf_ok (F := es) (fun e he => h e (hp.mem_iff.1 he)) es.length i hi
  rw [List.take_length] at h2
  rw [h2]
  exact ⟨fun ⟨e, he, h3⟩ => ⟨e, hp.mem_iff.1 he, h3⟩, fun ⟨e, he, h3⟩ => ⟨e, hp.mem_iff.2 he, h3⟩⟩
def zeroL (ns bl : List Int) : List Int := bl.foldl (fun n i => n.set i.toNat 0) ns
theorem zeroL_len (bl : List Int) : ∀ ns : List Int, (zeroL ns bl).length = ns.length := by
  induction bl with
  | nil => intro ns; rfl
  | cons b bl ih => intro ns; rw [zeroL, List.foldl_cons]; exact (ih _).trans List.length_set
theorem zeroL_snoc (ns bl : List Int) (b : Int) : zeroL ns (bl ++ [b]) = (zeroL ns bl).set b.toNat 0 := by simp [zeroL]
theorem zero_step {ns n4 bl : List Int} {i : Int} (h0 : 0 ≤ i) (hi : i < (bl.length : Int)) (h : n4 = zeroL ns (bl.take i.toNat)) : n4.set (bl.getD i.toNat 0).toNat 0 = zeroL ns (bl.take (i + 1).toNat) := by
  have h1 : i.toNat < bl.length := by omega
  rw [show (i + 1).toNat = i.toNat + 1 by omega, List.take_succ_eq_append_getElem h1, zeroL_snoc, h, List.getD_eq_getElem?_getD, List.getElem?_eq_getElem h1]
  rfl
theorem fhas_not {F : List Fe} {k : ByteArray} (h : fhas F k = false) : fget F k = none := by
  unfold fhas at h
  cases hg : fget F k with
  | none => rfl
  | some e => rw [hg] at h; cases h
theorem fat_no {F : List Fe} {k : ByteArray} (h : fhas F k = false) : fat F k = fz := by rw [fat, fhas_not h]; rfl
theorem fdel_no {F : List Fe} {k : ByteArray} (h : fhas F k = false) : F = fdel F k := by
  have h1 := fhas_not h
  unfold fget at h1
  rw [fdel, List.filter_eq_self.2]
  intro e he
  have := List.find?_eq_none.1 h1 e he
  simp only [decide_eq_true_eq] at this ⊢
  exact fun e2 => this e2.symm
def dropN (F : List Fe) (ns : List Int) (nm : ByteArray) : List Int := zeroL ns (fat F nm).bl
def dropS (F : List Fe) (sl : List Bool) (nm : ByteArray) : List Bool := if fhas F nm = true then sl.set (fat F nm).sl.toNat false else sl
section
variable {F : List Fe} {nm : ByteArray} {slt sz i : Int} {A : Option Addr} {c : Nat} {bl ns n4 : List Int} {sl : List Bool}
theorem drop_no (h : fhas F nm = false) : ns = dropN F ns nm := by rw [dropN, fat_no h]; rfl
theorem drop_noS (h : fhas F nm = false) : sl = dropS F sl nm := by rw [dropS, if_neg (by rw [h]; decide)]
theorem drop_yes (h : FAt F nm slt sz A c bl) (hn : n4 = zeroL ns (bl.take i.toNat)) (hi : i.toNat = bl.length) : n4 = dropN F ns nm := by
  obtain ⟨_, _, _, _, rfl⟩ := h
  rw [hn, hi, List.take_length, dropN]
theorem drop_yesS (h : FAt F nm slt sz A c bl) (hh : fhas F nm = true) : sl.set slt.toNat false = dropS F sl nm := by
  obtain ⟨rfl, _, _, _, _⟩ := h
  rw [dropS, if_pos hh]
end
def chunkB (bs : List Int) (k : Nat) : List Int := (bs.drop (256 * k)).take 256 ++ List.replicate (256 - ((bs.drop (256 * k)).take 256).length) 0
theorem chunkB_len (bs : List Int) (k : Nat) : (chunkB bs k).length = 256 := by
  unfold chunkB
  rw [List.length_append, List.length_replicate, List.length_take]
  omega
def putW (bl bs : List Int) : Wt := (List.range bl.length).map fun k => (42 + (32 + bl.getD k 0), chunkB bs k)
theorem putW_len (bl bs : List Int) : (putW bl bs).length = bl.length := by simp [putW]
theorem putW_get {bl bs : List Int} {i : Nat} (hi : i < bl.length) : (putW bl bs)[i]? = some (42 + (32 + bl.getD i 0), chunkB bs i) := by
  unfold putW
  rw [List.getElem?_map, List.getElem?_range hi]
  rfl
theorem putl_zero (m : Nat) (us : List Int) : putl (List.replicate m (0 : Int)) 0 us = us ++ List.replicate (m - us.length) 0 := by
  unfold putl
  rw [List.take_zero, List.nil_append, List.drop_replicate, Nat.zero_add]
theorem chunk_is {bs y z : List Int} {i : Int} (h0 : 0 ≤ i) (hb : 256 * i ≤ (bs.length : Int)) (hy : y = (bs.drop (256 * i).toNat).take (bs.length - (256 * i).toNat)) (hz : z = putl (List.replicate 256 (0 : Int)) 0 (y.take 256)) : z = chunkB bs i.toNat := by
  have h1 : y = bs.drop (256 * i.toNat) := by rw [hy, show (256 * i).toNat = 256 * i.toNat by omega, List.take_of_length_le (by rw [List.length_drop]; omega)]
  rw [hz, h1, chunkB, putl_zero]
def chainS (n bl : List Int) : Nat → List Int
  | 0 => n
  | k + 1 => if 0 < k then ((chainS n bl k).set (bl.getD k 0).toNat 65535).set (bl.getD (k - 1) 0).toNat (bl.getD k 0 + 1) else (chainS n bl k).set (bl.getD k 0).toNat 65535
theorem chainS_len (n bl : List Int) : ∀ k, (chainS n bl k).length = n.length
  | 0 => rfl
  | k + 1 => by
    rw [chainS]
    split
    · rw [List.length_set, List.length_set, chainS_len n bl k]
    · rw [List.length_set, chainS_len n bl k]
section
variable {n n4 bl : List Int} {i : Int}
theorem chain_one (h0 : 0 ≤ i) (h : n4 = chainS n bl i.toNat) (hi : ¬ i > 0) : n4.set (bl.getD i.toNat 0).toNat 65535 = chainS n bl (i + 1).toNat := by
  rw [show (i + 1).toNat = i.toNat + 1 by omega, chainS, if_neg (by omega), h]
theorem chain_two (h0 : 0 ≤ i) (h : n4 = chainS n bl i.toNat) (hi : i > 0) : (n4.set (bl.getD i.toNat 0).toNat 65535).set (bl.getD (i - 1).toNat 0).toNat (bl.getD i.toNat 0 + 1) = chainS n bl (i + 1).toNat := by
  rw [show (i + 1).toNat = i.toNat + 1 by omega, chainS, if_pos (by omega), h, show (i - 1).toNat = i.toNat - 1 by omega]
end
theorem write_ok {n : Nat} {wt w2 : Wt} {e b lf l2 : Int} {dn d2 : Bool} {x : List Int} (h : (e, w2, l2, d2) = if there n b then writeP n wt lf dn (42 + b) x else (1, wt, lf, dn)) (ht : there n b) : (e, w2, l2, d2) = writeP n wt lf dn (42 + b) x := by rw [h, if_pos ht]
theorem ix_step {xs : List Bool} {v : Bool} {i : Int} (h0 : 0 ≤ i) (hj : ∀ j : Nat, (j : Int) < i → xs.getD j false ≠ v) (h : (v == xs.getD i.toNat false) = false) : ∀ j : Nat, (j : Int) < i + 1 → xs.getD j false ≠ v := fun j h1 => by
  by_cases h2 : (j : Int) < i
  · exact hj j h2
  · have : j = i.toNat := by omega
    subst this
    intro e
    rw [e] at h
    simp at h
theorem ix_eq {xs : List Bool} {v : Bool} {i : Nat} (h : (v == xs.getD i false) = true) : xs.getD i false = v := by
  have := eq_of_beq h
  exact this.symm
theorem el_bd {bl : List Int} {k : Int} {j : Nat} (h : ∀ i ∈ bl, 0 ≤ i ∧ i < k) (hj : j < bl.length) : 0 ≤ bl.getD j 0 ∧ bl.getD j 0 < k := by
  rw [List.getD_eq_getElem?_getD, List.getElem?_eq_getElem hj]
  exact h _ (List.getElem_mem hj)
theorem sp_bd {sp x y : List Int} {k : Int} {m : Nat} (h : ∀ i ∈ sp, 0 ≤ i ∧ i < k) (hx : x = sp.take m) (hy : y = x) : ∀ i ∈ y, 0 ≤ i ∧ i < k := fun i hi => h i (by rw [hy, hx] at hi; exact List.mem_of_mem_take hi)
theorem free_slot {sl : List Bool} {ix : Int} (h : (0 ≤ ix ∧ ix < ((64 : Nat) : Int) ∧ sl.getD ix.toNat false = false) ∨ (ix = -1 ∧ ∀ j : Nat, j < 64 → sl.getD j false ≠ false)) (hf : ∃ j : Nat, j < 64 ∧ sl.getD j false = false) : 0 ≤ ix ∧ ix < 64 ∧ sl.getD ix.toNat false = false := by
  rcases h with h | ⟨_, h⟩
  · exact h
  · obtain ⟨j, hj, he⟩ := hf
    exact absurd he (h j hj)
end Go.Proofs.Ytlibhidhfbecbaa.SL.I
