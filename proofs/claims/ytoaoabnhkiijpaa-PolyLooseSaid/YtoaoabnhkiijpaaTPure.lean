/- Poly1305's laws: plain lemmas. -/
import Derived.Test.YtoaoabnhkiijpaaRPure
namespace Go.Proofs.Ytoaoabnhkiijpaa.SL.Y
set_option linter.unusedVariables false
set_option linter.unusedSimpArgs false
open Go Go.Proofs.Ytoaoabnhkiijpaa.SL Go.Proofs.Ytoaoabnhkiijpaa.SL.W
open Go.Proofs.Ytoaoabnhkiijpaa.SL.F (set_at)
def cl (i : Nat) (x : Int) : Int := if i % 4 = 3 then x % 16 else if 0 < i ∧ i % 4 = 0 then x / 4 * 4 else x
theorem clamp_eq (xs : List Int) : clamp xs = (List.range 16).map fun i => cl i (xs.getD i 0) := rfl
theorem clamp_cl {xs : List Int} {i : Nat} (hi : i < 16) : (clamp xs).getD i 0 = cl i (xs.getD i 0) := by rw [clamp_eq, N.map_get hi]
theorem clamp_set {xs : List Int} {j : Nat} {v : Int} (hj : j < xs.length) (h : cl j v = cl j (xs.getD j 0)) : clamp (xs.set j v) = clamp xs := by
  rw [clamp_eq, clamp_eq]
  apply List.map_congr_left
  intro i _
  by_cases e : i = j
  · rw [e, set_at hj, h]
  · rw [F.getD_set_ne (by omega)]
abbrev ZC (xs : List Int) : Prop := clamp xs = List.replicate 16 0
theorem zc_zero : ZC (List.replicate 16 0) := by decide +kernel
theorem zc_set {xs : List Int} {i v : Int} (h : ZC xs) (hl : xs.length = 16) (h0 : 0 ≤ i) (h1 : i < 16) (hv : (i % 4 = 3 ∧ v % 16 = 0) ∨ (0 < i ∧ i % 4 = 0 ∧ v / 4 * 4 = 0)) : ZC (xs.set i.toNat v) := by
  have e : (clamp xs).getD i.toNat 0 = 0 := by rw [h, List.getD_eq_getElem?_getD, List.getElem?_replicate, if_pos (by omega)]; rfl
  rw [clamp_cl (by omega)] at e
  refine (clamp_set (by omega) ?_).trans h
  rw [e, cl]
  split
  · omega
  · split <;> omega
theorem drop_app {as bs : List Int} (h : as.length = 16) : (as ++ bs).drop 16 = bs := by rw [← h, List.drop_left]
theorem plain_a {rs ss : List Int} (hr : In .u8 rs) (hs : In .u8 ss) (h1 : rs.length = 16) (h2 : ss.length = 16) : tagL (rs ++ ss) [] = ss := by
  rw [tag_nil (hr.append hs) (by rw [List.length_append]; omega), drop_app h1]
theorem plain_b {fs ss m : List Int} (hr : In .u8 fs) (hs : In .u8 ss) (h1 : fs.length = 16) (h2 : ss.length = 16) (hz : ZC fs) : tagL (fs ++ ss) m = ss := by
  have hl : (fs ++ ss).length = 32 := by rw [List.length_append]; omega
  rw [tag_zero (hr.append hs) hl ?_, drop_app h1]
  rw [rOf, clamp_take (by omega), show (fs ++ ss).take 16 = fs by rw [← h1, List.take_left], hz]
  decide +kernel
/-- The key is as the other one, but for what is made 0. -/
structure KL (os ks : List Int) : Prop where
  c : clamp os = clamp ks
  d : os.drop 16 = ks.drop 16
  l : os.length = 32
theorem kl_set {os ks : List Int} {j : Nat} {v : Int} (h : KL os ks) (hj : j < 16) (hv : cl j v = cl j (os.getD j 0)) : KL (os.set j v) ks :=
  ⟨(clamp_set (by rw [h.l]; omega) hv).trans h.c, by rw [List.drop_set_of_lt (by omega)]; exact h.d, by rw [List.length_set]; exact h.l⟩
theorem xor_hi : ∀ a : Fin 256, ∀ t : Fin 16, bits2 .xor .u8 (a.val : Int) ((t.val : Int) * 16) % 16 = (a.val : Int) % 16 := by decide +kernel
theorem xor_lo : ∀ a : Fin 256, ∀ t : Fin 4, bits2 .xor .u8 (a.val : Int) (t.val : Int) / 4 * 4 = (a.val : Int) / 4 * 4 := by decide +kernel
theorem kl_a {os ks : List Int} {i j t : Int} (h : KL os ks) (ho : In .u8 os) (h0 : 0 ≤ i) (h1 : i < 4) (hj : j = 4 * i + 3) (ht : 0 ≤ t ∧ t < 256) : KL (os.set j.toNat (bits2 .xor .u8 (os.getD j.toNat 0) (t / 16 * 16))) ks := by
  have ha : 0 ≤ os.getD j.toNat 0 ∧ os.getD j.toNat 0 < 256 := ho.at_ _
  refine kl_set h (by omega) ?_
  have e := xor_hi ⟨(os.getD j.toNat 0).toNat, by omega⟩ ⟨(t / 16).toNat, by omega⟩
  simp only [show (((os.getD j.toNat 0).toNat : Nat) : Int) = os.getD j.toNat 0 by omega, show (((t / 16).toNat : Nat) : Int) = t / 16 by omega] at e
  rw [cl, cl, if_pos (by omega), if_pos (by omega)]
  exact e
theorem kl_b {os ks : List Int} {i j t : Int} (h : KL os ks) (ho : In .u8 os) (h0 : 0 ≤ i) (h1 : i < 3) (hj : j = 4 * i + 4) (ht : 0 ≤ t ∧ t < 256) : KL (os.set j.toNat (bits2 .xor .u8 (os.getD j.toNat 0) (t % 4))) ks := by
  have ha : 0 ≤ os.getD j.toNat 0 ∧ os.getD j.toNat 0 < 256 := ho.at_ _
  refine kl_set h (by omega) ?_
  have e := xor_lo ⟨(os.getD j.toNat 0).toNat, by omega⟩ ⟨(t % 4).toNat, by omega⟩
  simp only [show (((os.getD j.toNat 0).toNat : Nat) : Int) = os.getD j.toNat 0 by omega, show (((t % 4).toNat : Nat) : Int) = t % 4 by omega] at e
  simp only [cl, if_neg (show ¬ j.toNat % 4 = 3 by omega), if_pos (show 0 < j.toNat ∧ j.toNat % 4 = 0 by omega)]
  exact e
theorem kl_tag {os ks m : List Int} (h : KL os ks) (hl : ks.length = 32) : tagL ks m = tagL os m := tag_same (by rw [hl, h.l]) h.c.symm h.d.symm
end Go.Proofs.Ytoaoabnhkiijpaa.SL.Y
