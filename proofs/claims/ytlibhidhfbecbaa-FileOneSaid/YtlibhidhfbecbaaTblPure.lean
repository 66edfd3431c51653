/- Files: the blocks that tell of them. -/
import Derived.Test.YtlibhidhfbecbaaYPure
namespace Go.Proofs.Ytlibhidhfbecbaa.SL.I
set_option linter.unusedVariables false
set_option linter.unusedSimpArgs false
open Go Go.Proofs.Ytlibhidhfbecbaa.SL Go.Proofs.Ytlibhidhfbecbaa.SL.W Go.Proofs.Ytlibhidhfbecbaa.SL.D

theorem _root_.Go.Proofs.Ytlibhidhfbecbaa.SL.D.W256.at {rs : List Ro} {A : Option Addr} {c : Nat} {xs : List Int} {i : Nat} (h : W256 rs) (hg : rs[i]? = some (A, c, xs)) : xs.length = 256 := h _ (List.mem_of_getElem? hg)
theorem _root_.Go.Proofs.Ytlibhidhfbecbaa.SL.D.W256.set {rs : List Ro} {A : Option Addr} {c : Nat} {xs : List Int} {i : Nat} (h : W256 rs) (hx : xs.length = 256) : W256 (rs.set i (A, c, xs)) := fun r hr => by
  rcases List.mem_or_eq_of_mem_set hr with hr | rfl
  · exact h r hr
  · exact hx
def putE (r : List Int) (o : Nat) (nm : ByteArray) (sz fb : Int) : List Int := putl (putl (putl (r.set o (nm.size : Int)) (o + 1) (sb nm)) (o + 44) (leB sz 4)) (o + 48) ((leB fb 4).take 2)
def dirE (rs : List (List Int)) (e : Fe) : List (List Int) := rs.set (e.sl / 4).toNat (putE (rs.getD (e.sl / 4).toNat []) (64 * (e.sl % 4)).toNat e.nm e.sz (firstB e.bl))
def dirS (es : List Fe) : List (List Int) := es.foldl dirE (List.replicate 16 (List.replicate 256 0))
theorem dirS_snoc (es : List Fe) (e : Fe) : dirS (es ++ [e]) = dirE (dirS es) e := by rw [dirS, List.foldl_append]; rfl
def FeD (F : List Fe) : Prop := ∀ e ∈ F, e.nm.size ≤ 40 ∧ e.sz ≤ 524288 ∧ ∀ i ∈ e.bl, 0 ≤ i ∧ i < 2048
theorem ro_zero {os : List Ro} {i : Nat} {A : Option Addr} {c : Nat} {x : List Int} (hi : i < os.length) : (os.set i (A, c, x)).take (i + 1) = os.take i ++ [(A, c, x)] := by
  rw [List.take_set, List.take_succ_eq_append_getElem hi, List.set_append_right _ _ (by rw [List.length_take]; omega), List.length_take, Nat.min_eq_left (by omega), Nat.sub_self]
  rfl
theorem ro_zeroI {os : List Ro} {i : Int} {A : Option Addr} {c : Nat} {x : List Int} (h0 : 0 ≤ i) (hi : i < os.length) : os.take i.toNat ++ [(A, c, x)] = (os.set i.toNat (A, c, x)).take (i + 1).toNat := by
  rw [show (i + 1).toNat = i.toNat + 1 by omega, ro_zero (by omega)]
theorem zero_rows {os : List Ro} {i : Int} {A : Option Addr} {c : Nat} {x : List Int} (h0 : 0 ≤ i) (hi : i < os.length) (h : rb (os.take i.toNat) = List.replicate i.toNat (List.replicate 256 0)) (hx : x = List.replicate 256 0) : rb ((os.set i.toNat (A, c, x)).take (i + 1).toNat) = List.replicate (i + 1).toNat (List.replicate 256 0) := by
  rw [← ro_zeroI h0 hi, show (i + 1).toNat = i.toNat + 1 by omega, List.replicate_succ', ← h, hx, rb_app]
theorem zero_end {os : List Ro} {i : Int} (h : rb (os.take i.toNat) = List.replicate i.toNat (List.replicate 256 0)) (hi : i.toNat = 16) (hl : os.length = 16) : rb os = dirS [] := by
  rw [hi, List.take_of_length_le (by omega)] at h
  exact h
theorem nilrows_ok {k : IntKind} (n : Nat) : RowsOK k (List.replicate n (none, 0, [])) := fun r hr => by
  rw [List.eq_of_mem_replicate hr]
  exact ⟨In.nil _, Nat.le_refl _, Nat.zero_le _⟩
theorem zero_w {os : List Ro} {i : Int} (h : rb (os.take i.toNat) = List.replicate i.toNat (List.replicate 256 0)) (hi : i.toNat = 16) (hl : os.length = 16) : W256 os := fun r hr => by
  rw [hi, List.take_of_length_le (by omega)] at h
  have h1 : r.2.2 ∈ rb os := List.mem_map.2 ⟨r, hr, rfl⟩
  rw [h] at h1
  rw [List.eq_of_mem_replicate h1, List.length_replicate]
theorem putE_len {r : List Int} {o : Nat} {nm : ByteArray} {sz fb : Int} (hn : nm.size ≤ 40) (hr : r.length = 256) (ho : o + 64 ≤ 256) : (putE r o nm sz fb).length = 256 := by
  unfold putE
  have h1 : (sb nm).length ≤ 40 := by rw [sb_len]; exact hn
  have h2 : ((leB fb 4).take 2).length = 2 := rfl
  have h3 : (leB sz 4).length = 4 := rfl
  rw [putl_len, putl_len, putl_len, List.length_set, hr]
  · rw [List.length_set, hr]; omega
  · rw [putl_len (by rw [List.length_set, hr]; omega), List.length_set, hr, h3]; omega
  · rw [putl_len (by rw [putl_len (by rw [List.length_set, hr]; omega), List.length_set, hr, h3]; omega), putl_len (by rw [List.length_set, hr]; omega), List.length_set, hr, h2]; omega
theorem ro_in {k : IntKind} {qs : List Ro} {i : Nat} {A : Option Addr} {c : Nat} {x : List Int} (h : RowsOK k qs) (hg : qs[i]? = some (A, c, x)) : In k x := (h _ (List.mem_of_getElem? hg)).1
theorem putE_in {r : List Int} {o : Nat} {nm : ByteArray} {sz fb : Int} (hn : nm.size ≤ 40) (hr : In .u8 r) : In .u8 (putE r o nm sz fb) := by
  unfold putE
  exact ((((hr.set o ⟨by omega, by omega⟩).putl (In.sb _)).putl (leB_in 4 _)).putl ((leB_in 4 _).take 2))
theorem dir_step {qs : List Ro} {es : List Fe} {e : Fe} {k : Int} {A B : Option Addr} {c d : Nat} {x y : List Int} (h : rb qs = dirS es) (hg : qs[k.toNat]? = some (A, c, x)) (hk : k = e.sl / 4) (hy : y = putE x (64 * (e.sl % 4)).toNat e.nm e.sz (firstB e.bl)) : rb (qs.set k.toNat (B, d, y)) = dirS (es ++ [e]) := by
  have hx : (dirS es).getD (e.sl / 4).toNat [] = x := by
    rw [← h, ← hk, rb, List.getD_eq_getElem?_getD, List.getElem?_map, hg]; rfl
  rw [dirS_snoc, dirE, hx, ← h, ← hk, rb, List.map_set, hy]
  rfl
theorem dir_row {x a z b bl : List Int} {o : Nat} {nm : ByteArray} {sz f : Int} (ha : a = leB sz 4) (hz : z = leB f 4) (hb : b = z.take 2) (hf : f = firstB bl) : putl (putl (putl (x.set ((o : Int) + 0).toNat (nm.size : Int)) (o + 1) (sb nm)) (o + 44) (a.take (64 - 44))) (o + 48) (b.take (64 - 48)) = putE x o nm sz (firstB bl) := by
  subst ha hz hb hf
  rw [putE, show ((o : Int) + 0).toNat = o by omega]
  rfl
theorem first_pos {bl : List Int} {v : Int} (h : ((bl.length : Nat) : Int) > 0) (hv : v = bl.getD 0 0 + 1) : v = firstB bl := by
  cases bl with
  | nil => simp at h
  | cons b bl => exact hv
theorem first_nil {bl : List Int} (h : ¬ ((bl.length : Nat) : Int) > 0) : 65535 = firstB bl := by
  cases bl with
  | nil => rfl
  | cons b bl => simp at h
def chk (n : Nat) (xs : List Int) (i : Nat) : List Int := (xs.drop (n * i)).take n
theorem chk_len (n : Nat) (xs : List Int) (i : Nat) : (chk n xs i).length = min n (xs.length - n * i) := by simp [chk]
theorem chk_is (n : Nat) (xs : List Int) (i : Nat) : (xs.drop (n * i)).take (n * i + (chk n xs i).length - n * i) = chk n xs i := by
  rw [Nat.add_sub_cancel_left, chk_len, chk]
  apply List.take_eq_take_iff.2
  simp
theorem chk_in {n : Nat} {xs : List Int} {k : IntKind} (h : In k xs) (i : Nat) : In k (chk n xs i) := (h.drop _).take _
theorem chk_bnd {n : Nat} {xs : List Int} {a b : Int} (h : Bnd a b xs) (i : Nat) : Bnd a b (chk n xs i) := ⟨h.lo, h.hi, fun x hx => h.all x (List.mem_of_mem_drop (List.mem_of_mem_take hx))⟩
def n2B (v : Int) : List Int := (leB v 4).take 2
def n2L (xs : List Int) : List Int := xs.flatMap n2B
theorem n2L_len (xs : List Int) : (n2L xs).length = 2 * xs.length := by
  induction xs with
  | nil => rfl
  | cons x xs ih => rw [n2L, List.flatMap_cons, List.length_append, ← n2L, ih, List.length_cons]; show 2 + _ = _; omega
def padB (xs : List Int) : List Int := xs ++ List.replicate (256 - xs.length) 0
def tabN (ns : List Int) (k : Nat) : List (List Int) := (List.range k).map fun c => padB (n2L (chk 128 ns c))
def tabB (ns : List Int) : List (List Int) := tabN ns ((ns.length + 127) / 128)
theorem tabN_snoc (ns : List Int) (k : Nat) : tabN ns k ++ [padB (n2L (chk 128 ns k))] = tabN ns (k + 1) := by simp [tabN, List.range_succ]
theorem n2_step {xs os z a : List Int} {i v : Int} (h0 : 0 ≤ i) (hi : i < (xs.length : Int)) (ho : os = n2L (xs.take i.toNat)) (hv : v = xs.getD i.toNat 0) (hz : z = leB v 4) (ha : a = z.take 2) : os ++ a = n2L (xs.take (i + 1).toNat) := by
  have h1 : i.toNat < xs.length := by omega
  rw [show (i + 1).toNat = i.toNat + 1 by omega, List.take_succ_eq_append_getElem h1, ho, ha, hz, hv, n2L, n2L, List.flatMap_append, List.getD_eq_getElem?_getD, List.getElem?_eq_getElem h1]
  simp [n2B]
theorem n2_end {xs os : List Int} {i : Int} {k : Nat} (ho : os = n2L (xs.take i.toNat)) (hi : i.toNat = xs.length) (hk : k = 256 - os.length) : os ++ List.replicate k 0 = padB (n2L xs) := by
  rw [hi, List.take_length] at ho
  rw [padB, ← ho, hk]
theorem tab_next {ns : List Int} {rs : List Ro} {k : Nat} {A : Option Addr} {c : Nat} {x : List Int} (h : rb rs = tabN ns k) (hx : x = padB (n2L (chk 128 ns k))) : rb (rs ++ [(A, c, x)]) = tabN ns (k + 1) := by rw [rb_app, h, hx, tabN_snoc]
def chgL (ss : List Int) (wt : Wt) (bs : List (List Int)) : Nat → Wt
  | 0 => []
  | i + 1 => if vb ss wt (i : Int) = bs.getD i [] then chgL ss wt bs i else chgL ss wt bs i ++ [((i : Int), bs.getD i [])]
section
variable {ss z x : List Int} {wt : Wt} {zs : List Ro} {i : Int} {A B : Option Addr} {c d : Nat} {l : List Ch}
theorem chg_same (h0 : 0 ≤ i) (h : dat l = chgL ss wt (rb zs) i.toNat) (hg : zs[i.toNat]? = some (A, c, x)) (hz : z = vb ss wt i) (he : z = x) : dat l = chgL ss wt (rb zs) (i + 1).toNat := by
  have hx : (rb zs).getD i.toNat [] = x := by rw [rb, List.getD_eq_getElem?_getD, List.getElem?_map, hg]; rfl
  rw [show (i + 1).toNat = i.toNat + 1 by omega, chgL, if_pos (by rw [hx, Int.toNat_of_nonneg h0, ← hz, he]), h]
theorem chg_more (h0 : 0 ≤ i) (h : dat l = chgL ss wt (rb zs) i.toNat) (hg : zs[i.toNat]? = some (A, c, x)) (hz : z = vb ss wt i) (he : ¬ z = x) : dat (l ++ [(i, B, d, x)]) = chgL ss wt (rb zs) (i + 1).toNat := by
  have hx : (rb zs).getD i.toNat [] = x := by rw [rb, List.getD_eq_getElem?_getD, List.getElem?_map, hg]; rfl
  rw [show (i + 1).toNat = i.toNat + 1 by omega, chgL, if_neg (by rw [hx, Int.toNat_of_nonneg h0, ← hz]; exact he), dat_app, h, hx, Int.toNat_of_nonneg h0]
theorem chg_in (h : ∀ r ∈ l, r.2 ∈ zs) (hg : zs[i.toNat]? = some (A, c, x)) : ∀ r ∈ l ++ [(i, A, c, x)], r.2 ∈ zs := fun r hr => by
  rcases List.mem_append.1 hr with hr | hr
  · exact h r hr
  · rw [List.mem_singleton.1 hr]; exact List.mem_of_getElem? hg
end
theorem rb_append (a b : List Ro) : rb (a ++ b) = rb a ++ rb b := List.map_append
end Go.Proofs.Ytlibhidhfbecbaa.SL.I
