/- The reference's disk: plain lemmas. -/
import Derived.Test.YtcpohiegijpghaaMPure
import Derived.Test.YtcpohiegijpghaaSLzh
namespace Go.Proofs.Ytcpohiegijpghaa.SL.D
set_option linter.unusedVariables false
set_option linter.unusedSimpArgs false
open Go Go.Proofs.Ytcpohiegijpghaa.SL Go.Proofs.Ytcpohiegijpghaa.SL.W

def W256 (rs : List Ro) : Prop := ∀ r ∈ rs, r.2.2.length = 256
theorem W256.nil : W256 [] := fun r hr => by cases hr
theorem W256.app {rs : List Ro} {A : Option Addr} {c : Nat} {xs : List Int} (h : W256 rs) (hx : xs.length = 256) : W256 (rs ++ [(A, c, xs)]) := fun r hr => by
  rcases List.mem_append.1 hr with hr | hr
  · exact h r hr
  · rw [List.mem_singleton.1 hr]; exact hx
theorem W256.set {rs : List Ro} {A : Option Addr} {c : Nat} {xs : List Int} {i : Nat} (h : W256 rs) (hx : xs.length = 256) : W256 (rs.set i (A, c, xs)) := fun r hr => by
  rcases List.mem_or_eq_of_mem_set hr with hr | rfl
  · exact h r hr
  · exact hx
theorem W256.at {rs : List Ro} {A : Option Addr} {c : Nat} {xs : List Int} {i : Nat} (h : W256 rs) (hg : rs[i]? = some (A, c, xs)) : xs.length = 256 := h _ (List.mem_of_getElem? hg)
theorem W256.take {rs : List Ro} (h : W256 rs) (n : Nat) : W256 (rs.take n) := fun r hr => h r (List.mem_of_mem_take hr)
theorem cat_len : ∀ {rs : List Ro}, W256 rs → (cat rs).length = 256 * rs.length
  | [], _ => rfl
  | (A, c, xs) :: rs, h => by
    have h1 : xs.length = 256 := h _ List.mem_cons_self
    rw [cat_cons, List.length_append, h1, cat_len (fun r hr => h r (List.mem_cons_of_mem _ hr)), List.length_cons]
    omega
theorem cat_get : ∀ {rs : List Ro} {i : Nat} {A : Option Addr} {c : Nat} {xs : List Int}, W256 rs → rs[i]? = some (A, c, xs) → ((cat rs).drop (256 * i)).take 256 = xs
  | [], i, A, c, xs, _, hg => by simp at hg
  | (B, d, ys) :: rs, 0, A, c, xs, h, hg => by
    simp only [List.getElem?_cons_zero, Option.some.injEq, Prod.mk.injEq] at hg
    obtain ⟨rfl, rfl, rfl⟩ := hg
    have h1 : ys.length = 256 := h _ List.mem_cons_self
    rw [cat_cons, Nat.mul_zero, List.drop_zero, ← h1, List.take_left]
  | (B, d, ys) :: rs, i + 1, A, c, xs, h, hg => by
    rw [List.getElem?_cons_succ] at hg
    have h1 : ys.length = 256 := h _ List.mem_cons_self
    have ih := cat_get (fun r hr => h r (List.mem_cons_of_mem _ hr)) hg
    rw [cat_cons, show 256 * (i + 1) = ys.length + 256 * i by omega, List.drop_append]
    rw [show ys.drop (ys.length + 256 * i) = [] from List.drop_of_length_le (by omega), List.nil_append, show ys.length + 256 * i - ys.length = 256 * i by omega]
    exact ih
theorem cat_set : ∀ {rs : List Ro} {i : Nat} (A : Option Addr) (c : Nat) {xs : List Int}, W256 rs → i < rs.length → xs.length = 256 → cat (rs.set i (A, c, xs)) = putl (cat rs) (256 * i) xs
  | [], i, A, c, xs, _, hi, _ => by simp at hi
  | (B, d, ys) :: rs, 0, A, c, xs, h, hi, hx => by
    have h1 : ys.length = 256 := h _ List.mem_cons_self
    rw [List.set_cons_zero, cat_cons, cat_cons, putl, Nat.mul_zero, List.take_zero, List.nil_append, Nat.zero_add, hx, ← h1, List.drop_left]
  | (B, d, ys) :: rs, i + 1, A, c, xs, h, hi, hx => by
    have h1 : ys.length = 256 := h _ List.mem_cons_self
    have ih := cat_set A c (fun r hr => h r (List.mem_cons_of_mem _ hr)) (i := i) (by simpa using hi) hx
    rw [List.set_cons_succ, cat_cons, cat_cons, ih, putl, putl, show 256 * (i + 1) = ys.length + 256 * i by omega]
    rw [List.take_append, List.drop_append, show ys.take (ys.length + 256 * i) = ys from List.take_of_length_le (by omega), show ys.length + 256 * i - ys.length = 256 * i by omega]
    rw [show ys.drop (ys.length + 256 * i + xs.length) = [] from List.drop_of_length_le (by omega), List.nil_append, show ys.length + 256 * i + xs.length - ys.length = 256 * i + xs.length by omega]
    simp only [List.append_assoc]
theorem cat_putP {rs : List Ro} {b : Int} {A : Option Addr} {c : Nat} {xs : List Int} (h : W256 rs) (h0 : 0 ≤ b) (hb : b < rs.length) (hx : xs.length = 256) : cat (rs.set b.toNat (A, c, xs)) = putP (cat rs) (b, xs) := by
  rw [cat_set A c h (by omega) hx]
  rfl
theorem putl_set {ss xs ys : List Int} {k j : Nat} {v : Int} (hk : k + 256 ≤ ss.length) (hj : j < 256) (hx : xs = (ss.drop k).take 256) (hy : ys = xs.set j v) : putl ss k ys = ss.set (k + j) v := by
  subst hy
  have hl : xs.length = 256 := by rw [hx, List.length_take, List.length_drop]; omega
  apply List.ext_getElem?
  intro i
  rw [putl, List.length_set, hl]
  have e1 : (ss.take k).length = k := by rw [List.length_take]; omega
  by_cases h1 : i < k
  · rw [List.getElem?_append_left (by rw [List.length_append, e1]; omega), List.getElem?_append_left (by omega), List.getElem?_take, if_pos h1, List.getElem?_set_ne (by omega)]
  · by_cases h2 : i < k + 256
    · rw [List.getElem?_append_left (by rw [List.length_append, e1, List.length_set]; omega), List.getElem?_append_right (by omega), e1]
      by_cases h3 : i = k + j
      · subst h3
        rw [show k + j - k = j by omega, List.getElem?_set_self (by omega), List.getElem?_set_self (by omega)]
      · rw [List.getElem?_set_ne (by omega), List.getElem?_set_ne (by omega), hx, List.getElem?_take, if_pos (by omega), List.getElem?_drop, show k + (i - k) = i by omega]
    · rw [List.getElem?_append_right (by rw [List.length_append, e1, List.length_set]; omega), List.length_append, e1, List.length_set, hl, List.getElem?_drop, List.getElem?_set_ne (by omega), show k + 256 + (i - (k + 256)) = i by omega]
theorem tamper_row {rs : List Ro} {A B : Option Addr} {c d : Nat} {k : Nat} {v : Int} {xs : List Int} (h : W256 rs) (hk : k < 256 * rs.length) (hg : rs[k / 256]? = some (A, c, xs)) : cat (rs.set (k / 256) (B, d, xs.set (k % 256) v)) = (cat rs).set k v := by
  have hx := h.at hg
  have hl := cat_len h
  rw [cat_set B d h (by omega) (by rw [List.length_set, hx]), putl_set (by omega) (Nat.mod_lt _ (by decide)) (cat_get h hg).symm rfl, Nat.div_add_mod]
theorem _root_.Go.Proofs.Ytcpohiegijpghaa.SL.RowsOK.setByte {rs : List Ro} {A B : Option Addr} {c d : Nat} {i i2 j : Nat} {v : Int} {xs : List Int} (h : RowsOK .u8 rs) (hg : rs[i]? = some (A, c, xs)) (hv : 0 ≤ v ∧ v < 256) (hd : xs.length ≤ d) : RowsOK .u8 (rs.set i2 (B, d, xs.set j v)) := by
  obtain ⟨h1, h2, h3⟩ := h _ (List.mem_of_getElem? hg)
  exact h.set (h1.set _ hv) (by rw [List.length_set]; exact hd) (by rw [List.length_set]; exact h3)
theorem tamper_rowI {rs : List Ro} {A B : Option Addr} {c d : Nat} {x v : Int} {xs : List Int} (h : W256 rs) (h0 : 0 ≤ x) (hk : x < 256 * rs.length) (hg : rs[(x / 256).toNat]? = some (A, c, xs)) : cat (rs.set (x / 256).toNat (B, d, xs.set (x % 256).toNat v)) = (cat rs).set x.toNat v := by
  have e1 : (x / 256).toNat = x.toNat / 256 := by omega
  have e2 : (x % 256).toNat = x.toNat % 256 := by omega
  rw [e1] at hg ⊢
  rw [e2]
  exact tamper_row h (by omega) hg
/-- What is seen behind the first writes. -/
theorem seen_succ {ss : List Int} {wt : Wt} {b c : Int} {xs : List Int} {i : Nat} (h : wt[i]? = some (c, xs)) : seenP ss (wt.take (i + 1)) b = if c = b then xs else seenP ss (wt.take i) b := by
  obtain ⟨hi, e⟩ := List.getElem?_eq_some_iff.1 h
  rw [seenP, List.take_succ_eq_append_getElem hi, e, List.reverse_append, List.reverse_singleton, List.singleton_append]
  by_cases hc : c = b
  · rw [if_pos hc, List.find?_cons_of_pos (by simpa using hc)]
  · rw [if_neg hc, List.find?_cons_of_neg (by simpa using hc), seenP]
theorem seen_zero {rs : List Ro} {wt : Wt} {b : Int} {A : Option Addr} {c : Nat} {xs : List Int} (h : W256 rs) (hg : rs[b.toNat]? = some (A, c, xs)) : xs = seenP (cat rs) (wt.take 0) b := by
  rw [List.take_zero]
  exact (cat_get h hg).symm
theorem load_step {rs : List Ro} {bs xs : List Int} {i : Nat} {A : Option Addr} {c : Nat} (h : cat (rs.take i) = bs.take (256 * i)) (hi : i < rs.length) (hx : xs = (bs.drop (256 * i)).take 256) : cat ((rs.set i (A, c, xs)).take (i + 1)) = bs.take (256 * (i + 1)) := by
  have hg : (rs.set i (A, c, xs))[i]? = some (A, c, xs) := List.getElem?_set_self hi
  rw [← cat_step hg, List.take_set_of_le (Nat.le_refl i), h, hx, show 256 * (i + 1) = 256 * i + 256 by omega, List.take_add]
/-! ### The two side by side -/
section
variable {n m : Nat} {wt wt2 vt vt2 : Wt} {lf lf2 lg lg2 : Int} {dn dn2 dm dm2 : Bool} {b e e2 : Int} {bs cs ss s2 zs ys : List Int} {rs r2 : List Ro}
theorem same_write (h : (e, wt2, lf2, dn2) = writeP n wt lf dn b bs) (g : (e2, vt2, lg2, dm2) = writeP m vt lg dm b cs) (hn : m = n) (hw : vt = wt) (hl : lg = lf) (hd : dm = dn) (hb : cs = bs) : e = e2 ∧ vt2 = wt2 ∧ lg2 = lf2 ∧ dm2 = dn2 ∧ vt2.length = wt2.length := by
  subst hn; subst hw; subst hl; subst hd; subst hb
  rw [← h] at g
  cases g
  exact ⟨rfl, rfl, rfl, rfl, rfl⟩
theorem same_sync (h : (e, s2, wt2, lf2, dn2) = syncR ss wt lf dn) (g : (e2, cat r2, vt2, lg2, dm2) = syncR (cat rs) vt lg dm) (hs : cat rs = ss) (hw : vt = wt) (hl : lg = lf) (hd : dm = dn) : e = e2 ∧ cat r2 = s2 ∧ vt2 = wt2 ∧ lg2 = lf2 ∧ dm2 = dn2 ∧ vt2.length = wt2.length := by
  subst hs; subst hw; subst hl; subst hd
  rw [← h] at g
  obtain ⟨h1, h2, h3, h4, h5⟩ := pair5 g
  exact ⟨h1.symm, h2, h3, h4, h5, congrArg List.length h3⟩
theorem same_crash {ks : List Bool} (h : s2 = crashP ss wt ks) (g : cat r2 = crashP (cat rs) vt ks) (hs : cat rs = ss) (hw : vt = wt) : cat r2 = s2 := by rw [h, g, hs, hw]
theorem same_tamper {x : Int} {k : Nat} (h : s2 = tamperN ss x bs k) (g : cat r2 = tamperN (cat rs) x bs k) (hs : cat rs = ss) : cat r2 = s2 := by rw [h, g, hs]
theorem same_img (h : zs = ss) (hs : cat rs = ss) : zs = cat rs := by rw [h, hs]
theorem same_read (h : (0 ≤ b ∧ 256 * b + 256 ≤ (n : Int) ∧ e = 0 ∧ zs = seenP ss wt b ∧ zs.length = 256) ∨ (¬ (0 ≤ b ∧ 256 * b + 256 ≤ (n : Int)) ∧ e = 1 ∧ zs = []))
    (g : (0 ≤ b ∧ 256 * b + 256 ≤ (m : Int) ∧ e2 = 0 ∧ ys = seenP (cat rs) vt b ∧ ys.length = 256) ∨ (¬ (0 ≤ b ∧ 256 * b + 256 ≤ (m : Int)) ∧ e2 = 1 ∧ ys = [])) (hn : m = n) (hs : cat rs = ss) (hw : vt = wt) : e = e2 ∧ zs = ys ∧ zs.length ≤ 256 ∧ ys.length ≤ 256 := by
  subst hn; subst hs; subst hw
  rcases h with h | h
  · rcases g with g | g
    · exact ⟨h.2.2.1.trans g.2.2.1.symm, h.2.2.2.1.trans g.2.2.2.1.symm, by omega, by omega⟩
    · exact absurd ⟨h.1, h.2.1⟩ g.1
  · rcases g with g | g
    · exact absurd ⟨g.1, g.2.1⟩ h.1
    · exact ⟨h.2.1.trans g.2.1.symm, h.2.2.trans g.2.2.symm, by rw [h.2.2]; exact Nat.zero_le _, by rw [g.2.2]; exact Nat.zero_le _⟩
end
end Go.Proofs.Ytcpohiegijpghaa.SL.D
