/- The disk: plain laws. -/
import Derived.Test.YtlibhidhfbecbaaWPure
import Derived.Test.YtlibhidhfbecbaaSLzn
namespace Go.Proofs.Ytlibhidhfbecbaa.SL.D
set_option linter.unusedVariables false
set_option linter.unusedSimpArgs false
open Go Go.Proofs.Ytlibhidhfbecbaa.SL Go.Proofs.Ytlibhidhfbecbaa.SL.W

abbrev Wt := List (Int × List Int)
def dat (ws : List Ch) : Wt := ws.map fun r => (r.1, r.2.2.2)
theorem dat_len (ws : List Ch) : (dat ws).length = ws.length := List.length_map _
theorem dat_app (ws : List Ch) (b : Int) (A : Option Addr) (c : Nat) (xs : List Int) : dat (ws ++ [(b, A, c, xs)]) = dat ws ++ [(b, xs)] := by simp [dat]
theorem dat_get {ws : List Ch} {i : Nat} {b : Int} {A : Option Addr} {c : Nat} {xs : List Int} (h : ws[i]? = some (b, A, c, xs)) : (dat ws)[i]? = some (b, xs) := by simp [dat, h]
def WOK (n : Nat) (ws : List Ch) : Prop := ∀ r ∈ ws, 0 ≤ r.1 ∧ 256 * r.1 + 256 ≤ n ∧ r.2.2.2.length = 256
theorem WOK.nil (n : Nat) : WOK n [] := fun r hr => by cases hr
theorem WOK.app {n : Nat} {ws : List Ch} {b : Int} {A : Option Addr} {c : Nat} {xs : List Int} (h : WOK n ws) (h0 : 0 ≤ b) (h1 : 256 * b + 256 ≤ n) (h2 : xs.length = 256) : WOK n (ws ++ [(b, A, c, xs)]) := fun r hr => by
  rcases List.mem_append.1 hr with hr | hr
  · exact h r hr
  · rw [List.mem_singleton.1 hr]; exact ⟨h0, h1, h2⟩
theorem wok_at {n i : Nat} {ws : List Ch} {b : Int} {A : Option Addr} {c : Nat} {xs : List Int} (h : WOK n ws) (hg : ws[i]? = some (b, A, c, xs)) : 0 ≤ b ∧ 256 * b + 256 ≤ n ∧ xs.length = 256 := h _ (List.mem_of_getElem? hg)
def chR (ws : List Ch) (q : Nat) : Ch := ws.getD (ws.length - 1 - q) (0, none, 0, [])
theorem chR_get {ws : List Ch} {q : Nat} (h : q < ws.length) : ws[ws.length - 1 - q]? = some ((chR ws q).1, (chR ws q).2.1, (chR ws q).2.2.1, (chR ws q).2.2.2) := by
  rw [chR, List.getD_eq_getElem?_getD, List.getElem?_eq_getElem (by omega)]
  rfl
theorem chR_of {ws : List Ch} {q i : Nat} {b : Int} {A : Option Addr} {c : Nat} {xs : List Int} (hg : ws[i]? = some (b, A, c, xs)) (h : ws.length - 1 - q = i) : chR ws q = (b, A, c, xs) := by
  rw [chR, List.getD_eq_getElem?_getD, h, hg]
  rfl
theorem chR_ok {ws : List Ch} (h : ChOK .u8 ws) (q : Nat) : In .u8 (chR ws q).2.2.2 ∧ (chR ws q).2.2.2.length ≤ (chR ws q).2.2.1 ∧ (chR ws q).2.2.2.length ≤ 140737488351232 := by
  by_cases hq : ws.length - 1 - q < ws.length
  · have e : chR ws q = ws[ws.length - 1 - q] := by rw [chR, List.getD_eq_getElem?_getD, List.getElem?_eq_getElem hq]; rfl
    rw [e]
    exact (h _ (List.getElem_mem hq)).2
  · have e : chR ws q = (0, none, 0, []) := by rw [chR, List.getD_eq_getElem?_getD, List.getElem?_eq_none (by omega)]; rfl
    rw [e]
    exact ⟨In.nil _, Nat.le_refl _, Nat.zero_le _⟩
def actP (l : Int) (d : Bool) : Int × Bool := if l > 0 then (l - 1, decide (l - 1 = 0)) else (l, d)
theorem nil_of_none {A : Option Addr} {xs : List Int} (h : Option.isNone A = true) (hA : 0 < xs.length → Option.isSome A = true) : xs = [] := by
  cases xs with
  | nil => rfl
  | cons x xs =>
    have := hA (by simp)
    cases A <;> simp_all
def writeP (n : Nat) (wt : Wt) (lf : Int) (dn : Bool) (b : Int) (bs : List Int) : Int × Wt × Int × Bool :=
  if ¬ (0 ≤ b ∧ 256 * b + 256 ≤ n) ∨ bs.length ≠ 256 then (1, wt, lf, dn) else if dn = true then (11, wt, lf, dn) else (if (actP lf dn).2 = true then 11 else 0, wt ++ [(b, bs)], actP lf dn)
theorem write_go {n : Nat} {ws : List Ch} {lf : Int} {dn : Bool} {b : Int} {bs zs : List Int} {e lf2 : Int} {dn2 : Bool} {A : Option Addr} {c : Nat} (h1 : 0 ≤ b) (h2 : 256 * b + 256 ≤ n) (h3 : bs.length = 256) (hd : dn = false) (ha : (lf2, dn2) = actP lf dn) (hz : zs = bs) (he : e = if dn2 = true then 11 else 0) :
    (e, dat (ws ++ [(b, A, c, zs)]), lf2, dn2) = writeP n (dat ws) lf dn b bs := by
  rw [writeP, if_neg (by omega), if_neg (by rw [hd]; decide), dat_app, hz, ← ha, he]
theorem write_bad {n : Nat} {wt : Wt} {lf : Int} {dn : Bool} {b : Int} {bs : List Int} (h : ¬ (0 ≤ b ∧ 256 * b + 256 ≤ n) ∨ bs.length ≠ 256) : (1, wt, lf, dn) = writeP n wt lf dn b bs := by rw [writeP, if_pos h]
theorem write_down {n : Nat} {wt : Wt} {lf : Int} {dn : Bool} {b : Int} {bs : List Int} (h1 : 0 ≤ b) (h2 : 256 * b + 256 ≤ n) (h3 : bs.length = 256) (hd : dn = true) : (11, wt, lf, dn) = writeP n wt lf dn b bs := by rw [writeP, if_neg (by omega), if_pos hd]
def seenP (ss : List Int) (wt : Wt) (b : Int) : List Int := match wt.reverse.find? (fun r => decide (r.1 = b)) with | some r => r.2 | none => (ss.drop (256 * b.toNat)).take 256
def putP (ss : List Int) (r : Int × List Int) : List Int := putl ss (256 * r.1.toNat) r.2
theorem putP_len {ss : List Int} {r : Int × List Int} {n : Nat} (h : ss.length = n) (h0 : 0 ≤ r.1) (h1 : 256 * r.1 + 256 ≤ n) (h2 : r.2.length = 256) : (putP ss r).length = n := by rw [putP, putl_len (by omega), h]
def syncP (ss : List Int) (wt : Wt) : List Int := wt.foldl putP ss
theorem sync_step {ss : List Int} {wt : Wt} {i : Nat} {b : Int} {xs : List Int} (h : wt[i]? = some (b, xs)) : putP (syncP ss (wt.take i)) (b, xs) = syncP ss (wt.take (i + 1)) := by
  obtain ⟨hi, e⟩ := List.getElem?_eq_some_iff.1 h
  rw [List.take_succ_eq_append_getElem hi, e]
  simp [syncP]
def syncR (ss : List Int) (wt : Wt) (lf : Int) (dn : Bool) : Int × List Int × Wt × Int × Bool :=
  if dn = true then (11, ss, wt, lf, dn) else if (actP lf dn).2 = true then (11, ss, wt, actP lf dn) else (0, syncP ss wt, [], actP lf dn)
theorem sync_down {ss : List Int} {wt : Wt} {lf : Int} {dn : Bool} (h : dn = true) : (11, ss, wt, lf, dn) = syncR ss wt lf dn := by rw [syncR, if_pos h]
theorem sync_go {ss : List Int} {wt : Wt} {lf lf2 : Int} {dn dn2 : Bool} (h : dn = false) (ha : (lf2, dn2) = actP lf dn) (h2 : dn2 = true) : (11, ss, wt, lf2, dn2) = syncR ss wt lf dn := by
  rw [syncR, if_neg (by rw [h]; decide), ← ha, if_pos h2]
theorem sync_end {ss s2 : List Int} {wt : Wt} {lf lf2 : Int} {dn dn2 : Bool} (h : dn = false) (ha : (lf2, dn2) = actP lf dn) (h2 : dn2 = false) (hs : s2 = syncP ss wt) : (0, s2, ([] : Wt), lf2, dn2) = syncR ss wt lf dn := by
  rw [syncR, if_neg (by rw [h]; decide), ← ha, if_neg (by simp [h2]), hs]
def NoneOf (ws : List Ch) (b : Int) (n : Nat) : Prop := ∀ q, q < n → (chR ws q).1 ≠ b
theorem NoneOf.zero (ws : List Ch) (b : Int) : NoneOf ws b 0 := fun q h => by omega
theorem NoneOf.succ {ws : List Ch} {b : Int} {n : Nat} (h : NoneOf ws b n) (hn : ¬ (chR ws n).1 = b) : NoneOf ws b (n + 1) := fun q hq => by
  by_cases e : q = n
  · rw [e]; exact hn
  · exact h q (by omega)
theorem rev_get {ws : List Ch} {q : Nat} (h : q < ws.length) : (dat ws).reverse[q]? = some ((chR ws q).1, (chR ws q).2.2.2) := by
  rw [List.getElem?_reverse (by rw [dat_len]; exact h), dat_len, show ws.length - 1 - q = ws.length - 1 - q from rfl]
  exact dat_get (chR_get h)
theorem find_first {α : Type} {p : α → Bool} : ∀ {l : List α} {q : Nat} {x : α}, l[q]? = some x → p x = true → (∀ j y, j < q → l[j]? = some y → p y = false) → l.find? p = some x
  | [], q, x, h, _, _ => by simp at h
  | a :: l, 0, x, h, hp, _ => by
    simp only [List.getElem?_cons_zero, Option.some.injEq] at h
    subst h
    simp [List.find?, hp]
  | a :: l, q + 1, x, h, hp, hn => by
    have ha := hn 0 a (by omega) rfl
    rw [List.find?_cons_of_neg (by simp [ha])]
    rw [List.getElem?_cons_succ] at h
    exact find_first h hp (fun j y hj hy => hn (j + 1) y (by omega) (by rw [List.getElem?_cons_succ]; exact hy))
theorem seen_some {ss : List Int} {ws : List Ch} {b : Int} {q : Nat} (h : q < ws.length) (hn : NoneOf ws b q) (hb : (chR ws q).1 = b) : (chR ws q).2.2.2 = seenP ss (dat ws) b := by
  rw [seenP, find_first (rev_get h) (by simp [hb]) (fun j y hj hy => by
    rw [rev_get (by omega)] at hy
    cases hy
    simpa using hn j hj)]
theorem seen_none {ss : List Int} {ws : List Ch} {b : Int} (hn : NoneOf ws b ws.length) : (ss.drop (256 * b.toNat)).take 256 = seenP ss (dat ws) b := by
  rw [seenP, List.find?_eq_none.2]
  intro x hx
  obtain ⟨q, hq⟩ := List.getElem?_of_mem hx
  have hq2 : q < ws.length := by
    have := (List.getElem?_eq_some_iff.1 hq).1
    rwa [List.length_reverse, dat_len] at this
  rw [rev_get hq2] at hq
  cases hq
  simpa using hn q hq2
theorem seen_end {ss z z1 z2 : List Int} {ws : List Ch} {b : Int} {k l : Nat} (hz : z = z2) (h2 : z2 = z1.take 256) (h1 : z1 = (ss.drop k).take l) (hk : k = 256 * b.toNat) (hl : ss.length - k ≤ l) (hn : NoneOf ws b ws.length) : z = seenP ss (dat ws) b := by
  rw [hz, h2, h1, show (ss.drop k).take l = ss.drop k from List.take_of_length_le (by rw [List.length_drop]; exact hl), hk]
  exact seen_none hn
end Go.Proofs.Ytlibhidhfbecbaa.SL.D
