/- Boxes: plain laws. -/
import Derived.Test.YtkehpipialmneaaCPure
import Derived.Test.YtkehpipialmneaaPPure
import Derived.Test.YtkehpipialmneaaMPure
import Derived.Test.YtkehpipialmneaaSLw
import Derived.Test.YtkehpipialmneaaSLzn
namespace Go.Proofs.Ytkehpipialmneaa.SL.A
set_option linter.unusedVariables false
set_option linter.unusedSimpArgs false
open Go Go.Proofs.Ytkehpipialmneaa.SL Go.Proofs.Ytkehpipialmneaa.SL.W

def fill (xs : List Int) : List Int := xs ++ List.replicate ((16 - xs.length % 16) % 16) 0
def pads (rs : List Ro) : List Int := rs.foldl (fun a r => fill (a ++ r.2.2)) []
theorem pads_two (A B : Option Addr) (c d : Nat) (xs ys : List Int) : pads [(A, c, xs), (B, d, ys)] = fill (fill xs ++ ys) := by
  simp [pads]
theorem pads_step {rs : List Ro} {i : Nat} {A : Option Addr} {c : Nat} {xs : List Int} (h : rs[i]? = some (A, c, xs)) : fill (pads (rs.take i) ++ xs) = pads (rs.take (i + 1)) := by
  obtain ⟨hi, e⟩ := List.getElem?_eq_some_iff.1 h
  rw [List.take_succ_eq_append_getElem hi, e]
  simp [pads]
theorem fill_is {os xs : List Int} {j : Nat} (h : os = xs ++ List.replicate j 0) (h1 : os.length % 16 = 0) (h2 : j ≤ (16 - xs.length % 16) % 16) : os = fill xs := by
  have hl := congrArg List.length h
  rw [List.length_append, List.length_replicate] at hl
  rw [h, fill, show j = (16 - xs.length % 16) % 16 by omega]
theorem fill_le (xs : List Int) : (fill xs).length ≤ xs.length + 15 := by rw [fill, List.length_append, List.length_replicate]; omega
theorem pads_le (rs : List Ro) : (pads rs).length ≤ (cat rs).length + 15 * rs.length := by
  have : ∀ (rs : List Ro) (a : List Int), (rs.foldl (fun a r => fill (a ++ r.2.2)) a).length ≤ a.length + (cat rs).length + 15 * rs.length := by
    intro rs
    induction rs with
    | nil => intro a; simp [cat]
    | cons r rs ih =>
      intro a
      have h1 := ih (fill (a ++ r.2.2))
      have h2 := fill_le (a ++ r.2.2)
      simp only [List.foldl_cons, List.length_append, List.length_cons] at *
      have e : (cat (r :: rs)).length = r.2.2.length + (cat rs).length := by simp [cat]
      omega
  have := this rs []
  simpa [pads] using this
theorem pads_lim (rs : List Ro) (i : Nat) (h : rs.length ≤ 8) : (pads (rs.take i)).length ≤ (cat (rs.take i)).length + 120 := by
  have h1 := pads_le (rs.take i)
  have h2 : (rs.take i).length ≤ 8 := by rw [List.length_take]; omega
  omega
def boxTag (xs ys bs hs : List Int) : List Int := Y.tagL ((C.block xs ys 0).take 32) (fill (fill bs ++ hs) ++ (leB bs.length 8 ++ leB hs.length 8))
def ok (xs ys : List Int) : Prop := xs.length = 32 ∧ ys.length = 12
instance (xs ys : List Int) : Decidable (ok xs ys) := by unfold ok; infer_instance
def tagged (xs ys bs hs : List Int) : Int × List Int := if ok xs ys then (0, boxTag xs ys bs hs) else (1, [])
def sealed (xs ys bs ts : List Int) : Int × List Int := if ok xs ys then (0, C.xorP xs ys 1 ts ts.length ++ boxTag xs ys bs (C.xorP xs ys 1 ts ts.length)) else (1, [])
def opened (xs ys bs zs : List Int) : Int × List Int :=
  if ok xs ys then if zs.length < 16 then (8, []) else if boxTag xs ys bs (zs.take (zs.length - 16)) = zs.drop (zs.length - 16) then (0, C.xorP xs ys 1 (zs.take (zs.length - 16)) (zs.length - 16)) else (7, []) else (1, [])
theorem tag_len {xs ys bs hs : List Int} : (boxTag xs ys bs hs).length = 16 := by
  have : ((C.block xs ys 0).take 32).length = 32 := by rw [List.length_take, C.block_len]; omega
  rw [boxTag, Y.tagL, if_pos this, leB_len]
theorem box_len {xs ys bs ts : List Int} (h : ok xs ys) : (sealed xs ys bs ts).2.length = ts.length + 16 := by
  rw [sealed, if_pos h, List.length_append, C.xorP_len, tag_len]
theorem box_code {xs ys bs ts : List Int} (h : ok xs ys) : (sealed xs ys bs ts).1 = 0 := by rw [sealed, if_pos h]
theorem open_seal {xs ys bs ts : List Int} (h : ok xs ys) (ht : In .u8 ts) : opened xs ys bs (sealed xs ys bs ts).2 = (0, ts) := by
  have e2 := box_len (bs := bs) (ts := ts) h
  have e3 := C.xor_back (key := xs) (nonce := ys) (b := ts) (n := 1) ht
  obtain ⟨H, hH⟩ : ∃ H, H = C.xorP xs ys 1 ts ts.length := ⟨_, rfl⟩
  have e1 : H.length = ts.length := by rw [hH]; exact C.xorP_len _ _ _ _ _
  have e0 : (sealed xs ys bs ts).2 = H ++ boxTag xs ys bs H := by rw [sealed, if_pos h, hH]
  rw [← hH, e1] at e3
  have t1 : (H ++ boxTag xs ys bs H).take ts.length = H := List.take_left' e1
  have t2 : (H ++ boxTag xs ys bs H).drop ts.length = boxTag xs ys bs H := List.drop_left' e1
  rw [opened, if_pos h, if_neg (by omega), e2, Nat.add_sub_cancel, e0, t1, t2, if_pos rfl, e3]
abbrev BH (ks ns : List Int) (e : Int) (n m : Nat) : Prop := (ks.length = 32 ∧ ns.length = 12 ∧ e = 0 ∧ n = m) ∨ (¬ (ks.length = 32 ∧ ns.length = 12) ∧ e = 1 ∧ n = 0)
theorem bad_code {ks ns : List Int} {e : Int} {n m : Nat} (he : BH ks ns e n m) (h : ¬ e = 0) : ¬ ok ks ns ∧ e = 1 := by
  rcases he with he | he
  · exact absurd he.2.2.1 h
  · exact ⟨he.1, he.2.1⟩
theorem good_code {ks ns : List Int} {e : Int} {n m : Nat} (he : BH ks ns e n m) (h : e = 0) : ok ks ns := by
  rcases he with he | he
  · exact ⟨he.1, he.2.1⟩
  · omega
theorem tag_bad {ks ns bs hs : List Int} {e : Int} {n m : Nat} (he : BH ks ns e n m) (h : ¬ e = 0) : (e, []) = tagged ks ns bs hs := by
  obtain ⟨h1, rfl⟩ := bad_code he h
  rw [tagged, if_neg h1]
theorem tag_end {ks ns bs hs zb zA zs m : List Int} {e e' : Int} {n n' : Nat} (he : BH ks ns e n n') (h : e = 0) (hz : e = 0 → zb = C.block ks ns 0) (hA : zA = zb.take 32) (hc : e' = Y.codeL zA) (ht : zs = Y.tagL zA m) (hm : m = fill (fill bs ++ hs) ++ (leB bs.length 8 ++ leB hs.length 8)) : (e', zs) = tagged ks ns bs hs := by
  have hl : (zb.take 32).length = 32 := by rw [hz h, List.length_take, C.block_len]; omega
  rw [tagged, if_pos (good_code he h), boxTag, ← hz h, ← hm, hc, ht, hA, Y.codeL, if_pos hl]
theorem seal_bad {ks ns bs hs : List Int} {e : Int} {n m : Nat} (he : BH ks ns e n m) (h : ¬ e = 0) : (e, []) = sealed ks ns bs hs := by
  obtain ⟨h1, rfl⟩ := bad_code he h
  rw [sealed, if_neg h1]
theorem tag_ok {ks ns bs hs : List Int} {e e' : Int} {n m : Nat} (he : BH ks ns e n m) (h : e = 0) (ht : e' = (tagged ks ns bs hs).1) : e' = 0 := by
  rw [ht, tagged, if_pos (good_code he h)]
theorem seal_end {ks ns bs hs zx zt zs : List Int} {e : Int} {n m : Nat} (he : BH ks ns e n m) (h : e = 0) (hx : e = 0 → zx = C.xorP ks ns 1 hs hs.length) (ht : zt = (tagged ks ns bs zx).2) (hz : zs = zx ++ zt) : (0, zs) = sealed ks ns bs hs := by
  rw [sealed, if_pos (good_code he h), hz, ht, tagged, if_pos (good_code he h), ← hx h]
theorem tagged_two {ks ns bs hs : List Int} (h : ok ks ns) : (tagged ks ns bs hs).2 = boxTag ks ns bs hs := by rw [tagged, if_pos h]
theorem tagged_len {ks ns bs hs : List Int} : (tagged ks ns bs hs).2.length ≤ 16 := by
  by_cases h : ok ks ns
  · rw [tagged_two h, tag_len]
    exact Nat.le_refl _
  · rw [tagged, if_neg h]
    exact Nat.zero_le _
theorem two_len {ks ns bs hs zs : List Int} {e : Int} (h : (e, zs) = tagged ks ns bs hs) : zs.length ≤ 16 := by
  have h1 : zs = (tagged ks ns bs hs).2 := congrArg Prod.snd h
  rw [h1]
  exact tagged_len
theorem seal_ok {ks ns bs hs : List Int} {e : Int} {n m : Nat} (he : BH ks ns e n m) (h : e = 0) : 0 = (sealed ks ns bs hs).1 := by rw [sealed, if_pos (good_code he h)]
theorem open_bad {ks ns bs hs : List Int} {e : Int} {n m : Nat} (he : BH ks ns e n m) (h : ¬ e = 0) : (e, []) = opened ks ns bs hs := by
  obtain ⟨h1, rfl⟩ := bad_code he h
  rw [opened, if_neg h1]
theorem open_short {ks ns bs hs : List Int} {e : Int} {n m : Nat} (he : BH ks ns e n m) (h : e = 0) (hl : hs.length < 16) : (8, []) = opened ks ns bs hs := by
  rw [opened, if_pos (good_code he h), if_pos hl]
theorem open_not {ks ns bs hs zA zB zt : List Int} {e : Int} {n m k : Nat} (ht : zt = (tagged ks ns bs zA).2) (hA : zA = hs.take k) (hB : zB = (hs.drop k).take (hs.length - k)) (hk : k = hs.length - 16) (hl : ¬ hs.length < 16) (he : BH ks ns e n m) (h : e = 0) (hn : ¬ zt = zB) : (7, []) = opened ks ns bs hs := by
  have e1 : zB = hs.drop k := by rw [hB, List.take_of_length_le (by rw [List.length_drop]; omega)]
  rw [tagged_two (good_code he h), hA] at ht
  rw [opened, if_pos (good_code he h), if_neg hl, ← hk, ← ht, ← e1, if_neg hn]
theorem open_end {ks ns bs hs zA zB zC zt zs : List Int} {e e' : Int} {n m k n' : Nat} (ht : zt = (tagged ks ns bs zA).2) (hA : zA = hs.take k) (hB : zB = (hs.drop k).take (hs.length - k)) (hk : k = hs.length - 16) (hl : ¬ hs.length < 16) (he : BH ks ns e n m) (h : e = 0) (hn : zt = zB)
    (he' : BH ks ns e' zs.length n') (hz : e' = 0 → zs = C.xorP ks ns 1 zC zC.length) (hC : zC = hs.take k) : (e', zs) = opened ks ns bs hs := by
  have e1 : zB = hs.drop k := by rw [hB, List.take_of_length_le (by rw [List.length_drop]; omega)]
  have e2 : e' = 0 := by rcases he' with h1 | h1; exact h1.2.2.1; exact absurd (good_code he h) h1.1
  have e3 : zC.length = k := by rw [hC, List.length_take]; omega
  rw [tagged_two (good_code he h), hA] at ht
  rw [opened, if_pos (good_code he h), if_neg hl, ← hk, ← ht, ← e1, if_pos hn, hz e2, e2, e3, hC]
theorem sealed_le {ks ns bs ts z : List Int} (hz : z = (sealed ks ns bs ts).2) : z.length ≤ ts.length + 16 := by
  by_cases h : ok ks ns
  · rw [hz, box_len h]; exact Nat.le_refl _
  · rw [hz, sealed, if_neg h]; exact Nat.zero_le _
theorem opened_le {ks ns bs ts z : List Int} (hz : z = (opened ks ns bs ts).2) : z.length ≤ ts.length := by
  rw [hz, opened]
  split
  · split
    · exact Nat.zero_le _
    · split
      · rw [C.xorP_len]; omega
      · exact Nat.zero_le _
  · exact Nat.zero_le _
theorem seal_e {ks ns bs ts : List Int} {e : Int} (he : e = (sealed ks ns bs ts).1) (h : ok ks ns) : e = 0 := he.trans (box_code h)
theorem seal_len {ks ns bs ts z : List Int} (hz : z = (sealed ks ns bs ts).2) (h : ok ks ns) : z.length = ts.length + 16 := by rw [hz, box_len h]
theorem open_e {ks ns ns' bs ts x : List Int} {e : Int} (he : e = (opened ks ns bs x).1) (hx : x = (sealed ks ns' bs ts).2) (hn : ns' = ns) (h : ok ks ns) (ht : In .u8 ts) : e = 0 := by rw [he, hx, hn, open_seal h ht]
theorem open_z {ks ns ns' bs ts x z : List Int} (hz : z = (opened ks ns bs x).2) (hx : x = (sealed ks ns' bs ts).2) (hn : ns' = ns) (h : ok ks ns) (ht : In .u8 ts) : z = ts := by rw [hz, hx, hn, open_seal h ht]
theorem open_8 {ks ns bs x : List Int} {e : Int} (he : e = (opened ks ns bs x).1) (h : ok ks ns) (hx : x.length < 16) : e = 8 := by rw [he, opened, if_pos h, if_pos hx]
end Go.Proofs.Ytkehpipialmneaa.SL.A
