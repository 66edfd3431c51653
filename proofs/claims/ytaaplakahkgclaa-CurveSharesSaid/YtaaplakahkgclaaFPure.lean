/- The field: plain laws. -/
import Derived.Test.YtaaplakahkgclaaWPure
import Derived.Test.YtaaplakahkgclaaSLw
namespace Go.Proofs.Ytaaplakahkgclaa.SL.F
set_option linter.unusedVariables false
set_option linter.unusedSimpArgs false
open Go Go.Proofs.Ytaaplakahkgclaa.SL Go.Proofs.Ytaaplakahkgclaa.SL.W

theorem getD_app_r {a b : List Int} {i : Nat} (h : a.length ≤ i) : (a ++ b).getD i 0 = b.getD (i - a.length) 0 := by rw [List.getD_eq_getElem?_getD, List.getD_eq_getElem?_getD, List.getElem?_append_right h]
def P : Int := 57896044618658097711785492504343953926634992332820282019728792003956564819949
def val (xs : List Int) : Int := xs.foldr (fun x v => x + 2251799813685248 * v) 0
theorem five {Q : List Int → Prop} (h : ∀ a b c d e : Int, Q [a, b, c, d, e]) (xs : List Int) (hl : xs.length = 5) : Q xs := by
  match xs, hl with
  | [a, b, c, d, e], _ => exact h a b c d e
def Lim (b : Int) (xs : List Int) : Prop := xs.length = 5 ∧ ∀ x ∈ xs, 0 ≤ x ∧ x < b
theorem Lim.at {b : Int} {xs : List Int} (h : Lim b xs) {i : Nat} (hi : i < 5) : 0 ≤ xs.getD i 0 ∧ xs.getD i 0 < b := by
  rw [List.getD_eq_getElem?_getD, List.getElem?_eq_getElem (by rw [h.1]; exact hi)]
  exact h.2 _ (List.getElem_mem _)
theorem Lim.mono {b b' : Int} {xs : List Int} (h : Lim b xs) (hb : b ≤ b') : Lim b' xs := ⟨h.1, fun x hx => ⟨(h.2 x hx).1, by have := (h.2 x hx).2; omega⟩⟩
def carC (xs : List Int) : Nat → Int
  | 0 => 0
  | n + 1 => (xs.getD n 0 + carC xs n) / 2251799813685248
def carL (xs : List Int) (n : Nat) : List Int := ((List.range n).map fun i => (xs.getD i 0 + carC xs i) % 2251799813685248) ++ xs.drop n
theorem carL_len (xs : List Int) (n : Nat) (h : n ≤ xs.length) : (carL xs n).length = xs.length := by simp [carL]; omega
theorem carL_at (xs : List Int) (n : Nat) : (carL xs n).getD n 0 = xs.getD n 0 := by
  rw [carL, getD_app_r (by simp)]
  simp [List.getD_eq_getElem?_getD]
theorem carL_step (xs : List Int) (n : Nat) (h : n < xs.length) : (carL xs n).set n ((xs.getD n 0 + carC xs n) % 2251799813685248) = carL xs (n + 1) := by
  rw [carL, carL, List.range_succ, List.map_append, List.drop_eq_getElem_cons h, List.set_append_right _ _ (by simp), show n - ((List.range n).map fun i => (xs.getD i 0 + carC xs i) % 2251799813685248).length = 0 by simp, List.set_cons_zero]
  simp
theorem carC_bd {b : Int} {xs : List Int} (h : Lim b xs) (hb : b ≤ 9223372036854775808) : ∀ n, n ≤ 5 → 0 ≤ carC xs n ∧ carC xs n ≤ 4096
  | 0, _ => ⟨Int.le_refl _, by simp [carC]⟩
  | n + 1, hn => by
    have h1 := carC_bd h hb n (by omega)
    have h2 := h.at (i := n) (by omega)
    rw [carC]
    omega
def carr (xs : List Int) : List Int := (carL xs 5).set 0 ((carL xs 5).getD 0 0 + 19 * carC xs 5)
theorem carr_lim {b : Int} {xs : List Int} (h : Lim b xs) (hb : b ≤ 9223372036854775808) : Lim (2251799813685248 + 77825) (carr xs) := by
  have hc := carC_bd h hb 5 (Nat.le_refl _)
  obtain ⟨hl, _⟩ := h
  refine ⟨by rw [carr, List.length_set, carL_len _ _ (by omega), hl], ?_⟩
  revert hc
  refine five (Q := fun xs => 0 ≤ carC xs 5 ∧ carC xs 5 ≤ 4096 → ∀ x ∈ carr xs, 0 ≤ x ∧ x < 2251799813685248 + 77825) (fun a b c d e hc x hx => ?_) xs hl
  have e1 : carr [a, b, c, d, e] = [(a + 0) % 2251799813685248 + 19 * carC [a, b, c, d, e] 5, (b + carC [a, b, c, d, e] 1) % 2251799813685248, (c + carC [a, b, c, d, e] 2) % 2251799813685248, (d + carC [a, b, c, d, e] 3) % 2251799813685248, (e + carC [a, b, c, d, e] 4) % 2251799813685248] := rfl
  rw [e1] at hx
  simp only [List.mem_cons, List.not_mem_nil, or_false] at hx
  rcases hx with rfl | rfl | rfl | rfl | rfl <;> omega
theorem carr_val {xs : List Int} (hl : xs.length = 5) : val (carr xs) = val xs - P * carC xs 5 := by
  refine five (Q := fun xs => val (carr xs) = val xs - P * carC xs 5) (fun a b c d e => ?_) xs hl
  have e1 : carr [a, b, c, d, e] = [(a + 0) % 2251799813685248 + 19 * carC [a, b, c, d, e] 5, (b + carC [a, b, c, d, e] 1) % 2251799813685248, (c + carC [a, b, c, d, e] 2) % 2251799813685248, (d + carC [a, b, c, d, e] 3) % 2251799813685248, (e + carC [a, b, c, d, e] 4) % 2251799813685248] := rfl
  have c1 : carC [a, b, c, d, e] 1 = (a + 0) / 2251799813685248 := rfl
  have c2 : carC [a, b, c, d, e] 2 = (b + carC [a, b, c, d, e] 1) / 2251799813685248 := rfl
  have c3 : carC [a, b, c, d, e] 3 = (c + carC [a, b, c, d, e] 2) / 2251799813685248 := rfl
  have c4 : carC [a, b, c, d, e] 4 = (d + carC [a, b, c, d, e] 3) / 2251799813685248 := rfl
  have c5 : carC [a, b, c, d, e] 5 = (e + carC [a, b, c, d, e] 4) / 2251799813685248 := rfl
  rw [e1]
  generalize carC [a, b, c, d, e] 1 = k1 at *
  generalize carC [a, b, c, d, e] 2 = k2 at *
  generalize carC [a, b, c, d, e] 3 = k3 at *
  generalize carC [a, b, c, d, e] 4 = k4 at *
  generalize carC [a, b, c, d, e] 5 = k5 at *
  simp only [val, List.foldr_cons, List.foldr_nil, P]
  omega
theorem mul_val (a0 a1 a2 a3 a4 b0 b1 b2 b3 b4 : Int) : val [a0, a1, a2, a3, a4] * val [b0, b1, b2, b3, b4] -
    val [a0 * b0 + a1 * (19 * b4) + a2 * (19 * b3) + a3 * (19 * b2) + a4 * (19 * b1), a0 * b1 + a1 * b0 + a2 * (19 * b4) + a3 * (19 * b3) + a4 * (19 * b2), a0 * b2 + a1 * b1 + a2 * b0 + a3 * (19 * b4) + a4 * (19 * b3),
      a0 * b3 + a1 * b2 + a2 * b1 + a3 * b0 + a4 * (19 * b4), a0 * b4 + a1 * b3 + a2 * b2 + a3 * b1 + a4 * b0] =
    P * ((a1 * b4 + a2 * b3 + a3 * b2 + a4 * b1) + 2251799813685248 * ((a2 * b4 + a3 * b3 + a4 * b2) + 2251799813685248 * ((a3 * b4 + a4 * b3) + 2251799813685248 * (a4 * b4)))) := by
  simp only [val, List.foldr_cons, List.foldr_nil, P]
  grind
theorem and_mask {x : Int} (h0 : 0 ≤ x) (h1 : x < 18446744073709551616) : bits2 .and .u64 x 2251799813685247 = x % 2251799813685248 := by
  rw [bits_and .u64 rfl x _ ⟨h0, h1⟩ ⟨by decide, by decide⟩]
  rw [show (2251799813685247 : Int).toNat = 2 ^ 51 - 1 from rfl, Nat.and_two_pow_sub_one_eq_mod]
  omega
theorem wrap64 {x : Int} (h0 : 0 ≤ x) (h1 : x < 18446744073709551616) : IntKind.wrap .u64 x = x := by
  simp [IntKind.wrap, IntKind.bits, IntKind.signed]
  omega
theorem set_at {xs : List Int} {n : Nat} (h : n < xs.length) (v : Int) : (xs.set n v).getD n 0 = v := by
  simp [List.getD_eq_getElem?_getD, h]
theorem car_sum {b : Int} {xs os : List Int} {n : Nat} {c : Int} (h : Lim b xs) (hb : b ≤ 9223372036854775808) (hn : n < 5) (ho : os = carL xs n) (hc : c = carC xs n) : IntKind.wrap .u64 (os.getD n 0 + c) = xs.getD n 0 + carC xs n ∧ 0 ≤ xs.getD n 0 + carC xs n ∧ xs.getD n 0 + carC xs n < 18446744073709551616 := by
  have h1 := h.at hn
  have h2 := carC_bd h hb n (by omega)
  have e : os.getD n 0 = xs.getD n 0 := by rw [ho, carL_at]
  rw [e, hc]
  exact ⟨wrap64 (by omega) (by omega), by omega, by omega⟩
theorem car_step {b : Int} {xs os : List Int} {n : Nat} {c : Int} (h : Lim b xs) (hb : b ≤ 9223372036854775808) (hn : n < 5) (ho : os = carL xs n) (hc : c = carC xs n) :
    (os.set n (IntKind.wrap .u64 (os.getD n 0 + c))).set n (bits2 .and .u64 ((os.set n (IntKind.wrap .u64 (os.getD n 0 + c))).getD n 0) 2251799813685247) = carL xs (n + 1) ∧ (os.set n (IntKind.wrap .u64 (os.getD n 0 + c))).getD n 0 / 2 ^ 51 = carC xs (n + 1) := by
  obtain ⟨e, h1, h2⟩ := car_sum h hb hn ho hc
  have hl : os.length = 5 := by rw [ho, carL_len _ _ (by rw [h.1]; omega), h.1]
  rw [e, set_at (by omega), List.set_set, and_mask h1 h2, ho, carL_step _ _ (by rw [h.1]; exact hn)]
  exact ⟨rfl, rfl⟩
theorem car_end {b : Int} {xs os : List Int} {c : Int} (h : Lim b xs) (hb : b ≤ 9223372036854775808) (ho : os = carL xs 5) (hc : c = carC xs 5) : os.set 0 (IntKind.wrap .u64 (os.getD 0 0 + IntKind.wrap .u64 (19 * c))) = carr xs := by
  have h2 := carC_bd h hb 5 (by omega)
  have h3 : 0 ≤ (carL xs 5).getD 0 0 ∧ (carL xs 5).getD 0 0 < 2251799813685248 := by
    refine five (Q := fun xs => 0 ≤ (carL xs 5).getD 0 0 ∧ (carL xs 5).getD 0 0 < 2251799813685248) (fun a b c d e => ?_) xs h.1
    show 0 ≤ (a + 0) % 2251799813685248 ∧ (a + 0) % 2251799813685248 < 2251799813685248
    omega
  rw [ho, hc, wrap64 (x := 19 * carC xs 5) (by omega) (by omega), wrap64 (by omega) (by omega)]
  rfl
def mapP (f : Nat → Int) (xs : List Int) (n : Nat) : List Int := ((List.range n).map f) ++ xs.drop n
theorem mapP_len (f : Nat → Int) (xs : List Int) (n : Nat) (h : n ≤ xs.length) : (mapP f xs n).length = xs.length := by simp [mapP]; omega
theorem mapP_at (f : Nat → Int) (xs : List Int) (n : Nat) : (mapP f xs n).getD n 0 = xs.getD n 0 := by
  rw [mapP, getD_app_r (by simp)]
  simp [List.getD_eq_getElem?_getD]
theorem mapP_step (f : Nat → Int) (xs : List Int) (n : Nat) (h : n < xs.length) : (mapP f xs n).set n (f n) = mapP f xs (n + 1) := by
  rw [mapP, mapP, List.range_succ, List.map_append, List.drop_eq_getElem_cons h, List.set_append_right _ _ (by simp), show n - ((List.range n).map f).length = 0 by simp, List.set_cons_zero]
  simp
structure El (xs : List Int) (v : Int) : Prop where
  lim : Lim 2251799813763073 xs
  v : val xs % P = v
theorem El.bd {xs : List Int} {v : Int} (h : El xs v) : 0 ≤ v ∧ v < P := by
  have := h.v
  simp only [P] at *
  omega
theorem El.carr {b : Int} {xs : List Int} {v : Int} (h : Lim b xs) (hb : b ≤ 9223372036854775808) (hv : val xs % P = v) : El (carr xs) v := by
  refine ⟨carr_lim h hb, ?_⟩
  rw [carr_val h.1, ← hv]
  exact Int.sub_mul_emod_self_left _ _ _
def addV (xs ys : List Int) (n : Nat) : List Int := mapP (fun i => xs.getD i 0 + ys.getD i 0) xs n
theorem addV_step {b : Int} {xs ys os : List Int} {n : Nat} (hx : Lim b xs) (hy : Lim b ys) (hb : b ≤ 4611686018427387904) (hn : n < 5) (ho : os = addV xs ys n) : os.set n (IntKind.wrap .u64 (os.getD n 0 + ys.getD n 0)) = addV xs ys (n + 1) := by
  have h1 := hx.at hn
  have h2 := hy.at hn
  have e : os.getD n 0 = xs.getD n 0 := by rw [ho, addV, mapP_at]
  rw [e, wrap64 (by omega) (by omega), ho]
  exact mapP_step _ _ _ (by rw [hx.1]; exact hn)
theorem addV_el {xs ys : List Int} {v w : Int} (hx : El xs v) (hy : El ys w) : Lim 9223372036854775808 (addV xs ys 5) ∧ val (addV xs ys 5) % P = (v + w) % P := by
  obtain ⟨⟨lx, bx⟩, vx⟩ := hx
  obtain ⟨⟨ly, by_⟩, vy⟩ := hy
  match xs, lx, ys, ly with
  | [a, b, c, d, e], _, [a', b', c', d', e'], _ =>
    have e1 : addV [a, b, c, d, e] [a', b', c', d', e'] 5 = [a + a', b + b', c + c', d + d', e + e'] := rfl
    have hs : val [a + a', b + b', c + c', d + d', e + e'] = val [a, b, c, d, e] + val [a', b', c', d', e'] := by
      simp only [val, List.foldr_cons, List.foldr_nil]
      omega
    rw [e1]
    refine ⟨⟨rfl, fun x hx => ?_⟩, by rw [hs, ← vx, ← vy, ← Int.add_emod]⟩
    have q : ∀ x ∈ [a, b, c, d, e], 0 ≤ x ∧ x < 2251799813763073 := bx
    have q' : ∀ x ∈ [a', b', c', d', e'], 0 ≤ x ∧ x < 2251799813763073 := by_
    simp only [List.mem_cons, List.not_mem_nil, or_false, forall_eq_or_imp, forall_eq] at q q' hx
    rcases hx with rfl | rfl | rfl | rfl | rfl <;> omega
def add64e : Array Value → Sem Value := (Extern.MathBitsCarry.rows.head (by decide)).2
theorem run_add64e {P : Program} {w : World} {x y c : Int} (hx : 0 ≤ x ∧ x < 18446744073709551616) (hy : 0 ≤ y ∧ y < 18446744073709551616) (hc : 0 ≤ c ∧ c ≤ 1) :
    (add64e #[.int .u64 x, .int .u64 y, .int .u64 c]).run P w = .ok (.tuple #[.int .u64 ((x + y + c) % 18446744073709551616), .int .u64 ((x + y + c) / 18446744073709551616)]) w := by
  have e1 : (((x.toNat + y.toNat + c.toNat) % 18446744073709551616 : Nat) : Int) = (x + y + c) % 18446744073709551616 := by omega
  have e2 : (((x.toNat + y.toNat + c.toNat) / 18446744073709551616 : Nat) : Int) = (x + y + c) / 18446744073709551616 := by omega
  rw [← e1, ← e2]
  rcases (show c = 0 ∨ c = 1 by omega) with rfl | rfl <;> rfl
theorem and32 {x : Int} (h0 : 0 ≤ x) (h1 : x < 18446744073709551616) : bits2 .and .u64 x 4294967295 = x % 4294967296 := by
  rw [bits_and .u64 rfl x _ ⟨h0, h1⟩ ⟨by decide, by decide⟩]
  rw [show (4294967295 : Int).toNat = 2 ^ 32 - 1 from rfl, Nat.and_two_pow_sub_one_eq_mod]
  omega
theorem wrap_mod (x : Int) : IntKind.wrap .u64 x = x % 18446744073709551616 := by simp [IntKind.wrap, IntKind.bits, IntKind.signed]
theorem mul_bd {a b : Int} (ha : 0 ≤ a ∧ a ≤ 4294967295) (hb : 0 ≤ b ∧ b ≤ 4294967295) : 0 ≤ a * b ∧ a * b ≤ 18446744065119617025 :=
  ⟨Int.mul_nonneg ha.1 hb.1, Int.mul_le_mul ha.2 hb.2 hb.1 (by decide)⟩
theorem mul64_eq {x y : Int} (hx : 0 ≤ x ∧ x < 18446744073709551616) (hy : 0 ≤ y ∧ y < 18446744073709551616) :
    Value.tuple #[.int .u64 (IntKind.wrap .u64 ((IntKind.wrap .u64 ((IntKind.wrap .u64 ((x / 2 ^ 32) * (y / 2 ^ 32))) + ((IntKind.wrap .u64 ((IntKind.wrap .u64 ((x / 2 ^ 32) * (bits2 .and .u64 y 4294967295))) + ((IntKind.wrap .u64 ((bits2 .and .u64 x 4294967295) * (bits2 .and .u64 y 4294967295))) / 2 ^ 32))) / 2 ^ 32))) + ((IntKind.wrap .u64 ((bits2 .and .u64 (IntKind.wrap .u64 ((IntKind.wrap .u64 ((x / 2 ^ 32) * (bits2 .and .u64 y 4294967295))) + ((IntKind.wrap .u64 ((bits2 .and .u64 x 4294967295) * (bits2 .and .u64 y 4294967295))) / 2 ^ 32))) 4294967295) + (IntKind.wrap .u64 ((bits2 .and .u64 x 4294967295) * (y / 2 ^ 32))))) / 2 ^ 32))), .int .u64 (IntKind.wrap .u64 (x * y))] =
    .tuple #[.int .u64 (x * y / 18446744073709551616), .int .u64 (x * y % 18446744073709551616)] := by
  have hw : ∀ e : Int, 0 ≤ IntKind.wrap .u64 e ∧ IntKind.wrap .u64 e < 18446744073709551616 := fun e => by rw [wrap_mod]; omega
  rw [and32 hx.1 hx.2, and32 hy.1 hy.2, and32 (hw _).1 (hw _).2]
  have ex : x = (x / 2 ^ 32) * 4294967296 + x % 4294967296 := by omega
  have ey : y = (y / 2 ^ 32) * 4294967296 + y % 4294967296 := by omega
  have b1 : 0 ≤ x / 2 ^ 32 ∧ x / 2 ^ 32 ≤ 4294967295 := by omega
  have b2 : 0 ≤ y / 2 ^ 32 ∧ y / 2 ^ 32 ≤ 4294967295 := by omega
  have b3 : 0 ≤ x % 4294967296 ∧ x % 4294967296 ≤ 4294967295 := by omega
  have b4 : 0 ≤ y % 4294967296 ∧ y % 4294967296 ≤ 4294967295 := by omega
  have p11 := mul_bd b1 b2
  have p10 := mul_bd b1 b4
  have p01 := mul_bd b3 b2
  have p00 := mul_bd b3 b4
  have exy : x * y = (x / 2 ^ 32) * (y / 2 ^ 32) * 18446744073709551616 + ((x / 2 ^ 32) * (y % 4294967296) + (x % 4294967296) * (y / 2 ^ 32)) * 4294967296 + (x % 4294967296) * (y % 4294967296) := by
    conv => lhs; rw [ex, ey]
    generalize x / 2 ^ 32 = a
    generalize y / 2 ^ 32 = b
    generalize x % 4294967296 = c
    generalize y % 4294967296 = d
    grind
  rw [exy]
  generalize (x / 2 ^ 32) * (y / 2 ^ 32) = q11 at *
  generalize (x / 2 ^ 32) * (y % 4294967296) = q10 at *
  generalize (x % 4294967296) * (y / 2 ^ 32) = q01 at *
  generalize (x % 4294967296) * (y % 4294967296) = q00 at *
  simp only [wrap_mod]
  congr 4
  omega
def four (i : Nat) : Int := if i = 0 then 9007199254740916 else 9007199254740988
def subV (xs ys : List Int) (n : Nat) : List Int := mapP (fun i => xs.getD i 0 + (four i - ys.getD i 0)) xs n
theorem subV_step {xs ys os : List Int} {n : Nat} {k : Int} (hx : Lim 2251799813763073 xs) (hy : Lim 2251799813763073 ys) (hn : n < 5) (hk : k = four n) (ho : os = subV xs ys n) : os.set n (IntKind.wrap .u64 (os.getD n 0 + IntKind.wrap .u64 (k - ys.getD n 0))) = subV xs ys (n + 1) := by
  have h1 := hx.at hn
  have h2 := hy.at hn
  have e : os.getD n 0 = xs.getD n 0 := by rw [ho, subV, mapP_at]
  have h3 : 9007199254740916 ≤ k ∧ k ≤ 9007199254740988 := by rw [hk, four]; split <;> omega
  rw [e, wrap64 (x := k - ys.getD n 0) (by omega) (by omega), wrap64 (by omega) (by omega), ho, hk]
  exact mapP_step _ _ _ (by rw [hx.1]; exact hn)
theorem subV_el {xs ys : List Int} {v w : Int} (hx : El xs v) (hy : El ys w) : Lim 9223372036854775808 (subV xs ys 5) ∧ val (subV xs ys 5) % P = (v - w) % P := by
  obtain ⟨⟨lx, bx⟩, vx⟩ := hx
  obtain ⟨⟨ly, by_⟩, vy⟩ := hy
  match xs, lx, ys, ly with
  | [a, b, c, d, e], _, [a', b', c', d', e'], _ =>
    have e1 : subV [a, b, c, d, e] [a', b', c', d', e'] 5 = [a + (9007199254740916 - a'), b + (9007199254740988 - b'), c + (9007199254740988 - c'), d + (9007199254740988 - d'), e + (9007199254740988 - e')] := rfl
    have hs : val [a + (9007199254740916 - a'), b + (9007199254740988 - b'), c + (9007199254740988 - c'), d + (9007199254740988 - d'), e + (9007199254740988 - e')] = val [a, b, c, d, e] - val [a', b', c', d', e'] + 4 * P := by
      simp only [val, List.foldr_cons, List.foldr_nil, P]
      omega
    rw [e1]
    refine ⟨⟨rfl, fun x hx => ?_⟩, by rw [hs, Int.add_mul_emod_self_right, ← vx, ← vy, ← Int.sub_emod]⟩
    have q : ∀ x ∈ [a, b, c, d, e], 0 ≤ x ∧ x < 2251799813763073 := bx
    have q' : ∀ x ∈ [a', b', c', d', e'], 0 ≤ x ∧ x < 2251799813763073 := by_
    simp only [List.mem_cons, List.not_mem_nil, or_false, forall_eq_or_imp, forall_eq] at q q' hx
    rcases hx with rfl | rfl | rfl | rfl | rfl <;> omega
theorem El.twice {ys : List Int} {w : Int} (h : El ys w) : El (Go.Proofs.Ytaaplakahkgclaa.SL.F.carr (Go.Proofs.Ytaaplakahkgclaa.SL.F.carr ys)) w := by
  have h1 : El (Go.Proofs.Ytaaplakahkgclaa.SL.F.carr ys) w := El.carr h.lim (by decide) h.v
  exact El.carr h1.lim (by decide) h1.v
def factor (ys : List Int) (n : Nat) : Int := if n / 5 + n % 5 ≥ 5 then ys.getD (n % 5) 0 * 19 else ys.getD (n % 5) 0
def term (xs ys : List Int) (n : Nat) : Int := xs.getD (n / 5) 0 * factor ys n
def col (xs ys : List Int) : Nat → Nat → Int
  | 0, _ => 0
  | n + 1, j => col xs ys n j + if (n / 5 + n % 5) % 5 = j then term xs ys n else 0
theorem factor_bd {ys : List Int} (hy : Lim 2251799813763073 ys) (n : Nat) : 0 ≤ factor ys n ∧ factor ys n ≤ 42784196461498387 := by
  have := hy.at (i := n % 5) (Nat.mod_lt _ (by decide))
  unfold factor
  split <;> omega
theorem term_bd {xs ys : List Int} (hx : Lim 2251799813763073 xs) (hy : Lim 2251799813763073 ys) {n : Nat} (hn : n < 25) : 0 ≤ term xs ys n ∧ term xs ys n ≤ 96341445624004794692866589663251 := by
  have h1 := hx.at (i := n / 5) (by omega)
  have h2 := factor_bd hy n
  unfold term
  refine ⟨Int.mul_nonneg h1.1 h2.1, ?_⟩
  have h := Int.mul_le_mul (show xs.getD (n / 5) 0 ≤ 2251799813763073 by omega) h2.2 h2.1 (by decide)
  omega
theorem col_bd {xs ys : List Int} (hx : Lim 2251799813763073 xs) (hy : Lim 2251799813763073 ys) (j : Nat) : ∀ {n : Nat}, n ≤ 25 → 0 ≤ col xs ys n j ∧ col xs ys n j ≤ n * 96341445624004794692866589663251
  | 0, _ => ⟨Int.le_refl _, by simp [col]⟩
  | n + 1, hn => by
    have h1 := col_bd hx hy j (n := n) (by omega)
    have h2 := term_bd hx hy (n := n) (by omega)
    rw [col]
    split <;> omega
structure Sums (xs ys : List Int) (n : Nat) (L : List Int) : Prop where
  len : L.length = 10
  sum : ∀ j, j < 5 → L.getD (2 * j) 0 * 18446744073709551616 + L.getD (2 * j + 1) 0 = col xs ys n j
theorem sums_zero (xs ys : List Int) : Sums xs ys 0 (List.replicate 10 (0 : Int)) := by
  refine ⟨rfl, fun j hj => ?_⟩
  rcases (show j = 0 ∨ j = 1 ∨ j = 2 ∨ j = 3 ∨ j = 4 by omega) with rfl | rfl | rfl | rfl | rfl <;> rfl
theorem getD_set_ne {xs : List Int} {i j : Nat} (h : i ≠ j) (v : Int) : (xs.set i v).getD j 0 = xs.getD j 0 := by
  simp [List.getD_eq_getElem?_getD, List.getElem?_set_ne h]
theorem sums_step {xs ys M : List Int} {n ix j : Nat} {k m a b : Int} (hS : Sums xs ys n M) (hj : (n / 5 + n % 5) % 5 = j) (hix : ix = 2 * j) (ha : a = xs.getD (n / 5) 0) (hb : b = factor ys n)
    (hz : k * 18446744073709551616 + m = M.getD ix 0 * 18446744073709551616 + M.getD (ix + 1) 0 + a * b) : Sums xs ys (n + 1) ((M.set ix k).set (ix + 1) m) := by
  have hj5 : j < 5 := by omega
  refine ⟨by rw [List.length_set, List.length_set, hS.len], fun i hi => ?_⟩
  have hs := hS.sum i hi
  have hl := hS.len
  subst hix
  rw [col]
  by_cases e : j = i
  · subst e
    rw [if_pos hj, getD_set_ne (by omega), set_at (by omega), set_at (by rw [List.length_set]; omega), hz, hs, ha, hb]
    rfl
  · rw [if_neg (by omega), getD_set_ne (by omega), getD_set_ne (by omega), getD_set_ne (by omega), getD_set_ne (by omega), hs]
    omega
theorem sums_room {xs ys M : List Int} {n ix j : Nat} {a b : Int} (hx : Lim 2251799813763073 xs) (hy : Lim 2251799813763073 ys) (hS : Sums xs ys n M) (hn : n < 25) (hj : (n / 5 + n % 5) % 5 = j) (hix : ix = 2 * j) (ha : a = xs.getD (n / 5) 0) (hb : b = factor ys n) :
    M.getD ix 0 * 18446744073709551616 + M.getD (ix + 1) 0 + a * b < 340282366920938463463374607431768211456 ∧ 0 ≤ a * b ∧ (0 ≤ b ∧ b < 18446744073709551616) := by
  have h1 := col_bd hx hy j (n := n) (by omega)
  have h2 := term_bd hx hy hn
  have h3 := hS.sum j (by omega)
  have h4 := factor_bd hy n
  have e : a * b = term xs ys n := by rw [ha, hb]; rfl
  subst hix
  rw [e, h3]
  omega
theorem factor_19 {ys : List Int} (hy : Lim 2251799813763073 ys) {i k : Nat} (hk : k < 5) (h : i + k ≥ 5) : IntKind.wrap .u64 (ys.getD k 0 * 19) = factor ys (5 * i + k) := by
  have h1 := hy.at hk
  rw [wrap64 (by omega) (by omega), factor, show (5 * i + k) / 5 = i by omega, show (5 * i + k) % 5 = k by omega, if_pos h]
theorem factor_1 {ys : List Int} {i k : Nat} (hk : k < 5) (h : ¬ i + k ≥ 5) : ys.getD k 0 = factor ys (5 * i + k) := by
  rw [factor, show (5 * i + k) / 5 = i by omega, show (5 * i + k) % 5 = k by omega, if_neg h]
def cc (xs ys : List Int) : Nat → Int
  | 0 => 0
  | n + 1 => (col xs ys 25 n + cc xs ys n) / 2251799813685248
def outL (xs ys : List Int) (n : Nat) : List Int := mapP (fun j => (col xs ys 25 j + cc xs ys j) % 2251799813685248) (List.replicate 5 0) n
theorem col25_bd {xs ys : List Int} (hx : Lim 2251799813763073 xs) (hy : Lim 2251799813763073 ys) (j : Nat) : 0 ≤ col xs ys 25 j ∧ col xs ys 25 j ≤ 2408536140600119867321664741581275 := by
  have := col_bd hx hy j (n := 25) (by decide)
  omega
theorem cc_bd {xs ys : List Int} (hx : Lim 2251799813763073 xs) (hy : Lim 2251799813763073 ys) : ∀ n, 0 ≤ cc xs ys n ∧ cc xs ys n ≤ 1152921504606846975
  | 0 => ⟨Int.le_refl _, by simp [cc]⟩
  | n + 1 => by
    have h1 := cc_bd hx hy n
    have h2 := col25_bd hx hy n
    rw [cc]
    omega
theorem or_shift {lo hi : Int} (h0 : 0 ≤ lo ∧ lo < 18446744073709551616) (h1 : 0 ≤ hi) : bits2 .or .u64 (lo / 2 ^ 51) (IntKind.wrap .u64 (hi * 2 ^ 13)) = lo / 2251799813685248 + hi * 8192 % 18446744073709551616 := by
  rw [wrap_mod, bits_or .u64 rfl _ _ ⟨by omega, show lo / 2 ^ 51 < 18446744073709551616 by omega⟩ ⟨by omega, show _ < (18446744073709551616 : Int) by omega⟩]
  have e1 : (lo / 2 ^ 51).toNat < 2 ^ 13 := by omega
  have e2 : (hi * 2 ^ 13 % 18446744073709551616).toNat = 2 ^ 13 * (hi % 2251799813685248).toNat := by omega
  rw [e2, Nat.or_comm, ← Nat.two_pow_add_eq_or_of_lt e1]
  omega
theorem Lim.inn {b : Int} {xs : List Int} (h : Lim b xs) (hb : b ≤ 18446744073709551616) : In .u64 xs := fun x hx => by
  have := h.2 x hx
  simp only [fits]
  omega
theorem at_col {i k : Int} (hi : 0 ≤ i) (hi2 : i < 5) (hk : 0 ≤ k) (hk2 : k < 5) : ((5 * i.toNat + k.toNat) / 5 + (5 * i.toNat + k.toNat) % 5) % 5 = ((i + k) % 5).toNat := by
  rw [show (5 * i.toNat + k.toNat) / 5 = i.toNat by omega, show (5 * i.toNat + k.toNat) % 5 = k.toNat by omega]
  omega
theorem mul_carry {xs ys L os : List Int} {n : Nat} {ch cl s1 s2 s3 : Int} (hx : Lim 2251799813763073 xs) (hy : Lim 2251799813763073 ys) (hS : Sums xs ys 25 L) (hLi : In .u64 L) (hn : n < 5) (ho : os = outL xs ys n) (hc : ch * 18446744073709551616 + cl = cc xs ys n)
    (hch : 0 ≤ ch ∧ ch < 18446744073709551616) (hcl : 0 ≤ cl ∧ cl < 18446744073709551616)
    (he1 : s1 = (L.getD (n * 2 + 1) 0 + cl + 0) % 18446744073709551616) (he2 : s2 = (L.getD (n * 2 + 1) 0 + cl + 0) / 18446744073709551616) (he3 : s3 = (L.getD (n * 2) 0 + ch + s2) % 18446744073709551616) :
    os.set n (bits2 .and .u64 s1 2251799813685247) = outL xs ys (n + 1) ∧ s3 / 2 ^ 51 * 18446744073709551616 + bits2 .or .u64 (s1 / 2 ^ 51) (IntKind.wrap .u64 (s3 * 2 ^ 13)) = cc xs ys (n + 1) ∧ (0 ≤ s3 / 2 ^ 51 ∧ s3 / 2 ^ 51 < 18446744073709551616) ∧
      (0 ≤ bits2 .or .u64 (s1 / 2 ^ 51) (IntKind.wrap .u64 (s3 * 2 ^ 13)) ∧ bits2 .or .u64 (s1 / 2 ^ 51) (IntKind.wrap .u64 (s3 * 2 ^ 13)) < 18446744073709551616) := by
  have h1 := hS.sum n hn
  rw [Nat.mul_comm] at h1
  have h2 := col25_bd hx hy n
  have h3 := cc_bd hx hy n
  have h4 := hLi.at_ (n * 2)
  have h5 := hLi.at_ (n * 2 + 1)
  simp only [fits] at h4 h5
  have hl : os.length = 5 := by rw [ho, outL, mapP_len _ _ _ (by simp; omega)]; rfl
  have e : s3 * 18446744073709551616 + s1 = col xs ys 25 n + cc xs ys n := by omega
  have r1 : 0 ≤ s1 ∧ s1 < 18446744073709551616 := by omega
  have r3 : 0 ≤ s3 ∧ s3 < 18446744073709551616 := by omega
  rw [or_shift r1 r3.1, and_mask r1.1 r1.2]
  refine ⟨?_, ?_, by omega, by omega⟩
  · rw [show s1 % 2251799813685248 = (col xs ys 25 n + cc xs ys n) % 2251799813685248 by omega, ho]
    exact mapP_step _ _ _ (by simp; omega)
  · rw [cc]
    omega
theorem mul_end {xs ys os : List Int} {v w ch cl s5 s6 : Int} (hE : El xs v) (hF : El ys w) (ho : os = outL xs ys 5) (hc : ch * 18446744073709551616 + cl = cc xs ys 5) (hch : 0 ≤ ch ∧ ch < 18446744073709551616) (hcl : 0 ≤ cl ∧ cl < 18446744073709551616)
    (he5 : s5 = (cl * 19 % 18446744073709551616 + os.getD 0 0 + 0) % 18446744073709551616) (he6 : s6 = (cl * 19 % 18446744073709551616 + os.getD 0 0 + 0) / 18446744073709551616) :
    Lim 9223372036854775808 ((os.set 0 (bits2 .and .u64 s5 2251799813685247)).set 1 (IntKind.wrap .u64 ((os.set 0 (bits2 .and .u64 s5 2251799813685247)).getD 1 0 + bits2 .or .u64 (s5 / 2 ^ 51) (IntKind.wrap .u64 (IntKind.wrap .u64 (cl * 19 / 18446744073709551616 + s6) * 2 ^ 13))))) ∧
    val ((os.set 0 (bits2 .and .u64 s5 2251799813685247)).set 1 (IntKind.wrap .u64 ((os.set 0 (bits2 .and .u64 s5 2251799813685247)).getD 1 0 + bits2 .or .u64 (s5 / 2 ^ 51) (IntKind.wrap .u64 (IntKind.wrap .u64 (cl * 19 / 18446744073709551616 + s6) * 2 ^ 13))))) % P = v * w % P := by
  have h0 := cc_bd hE.lim hF.lim 5
  have e1 : outL xs ys 5 = [(col xs ys 25 0 + cc xs ys 0) % 2251799813685248, (col xs ys 25 1 + cc xs ys 1) % 2251799813685248, (col xs ys 25 2 + cc xs ys 2) % 2251799813685248, (col xs ys 25 3 + cc xs ys 3) % 2251799813685248, (col xs ys 25 4 + cc xs ys 4) % 2251799813685248] := rfl
  have hch0 : ch = 0 := by omega
  have hcl0 : cl = cc xs ys 5 := by omega
  have r0 : os.getD 0 0 = (col xs ys 25 0 + cc xs ys 0) % 2251799813685248 := by rw [ho, e1]; rfl
  have r1 : (os.set 0 (bits2 .and .u64 s5 2251799813685247)).getD 1 0 = (col xs ys 25 1 + cc xs ys 1) % 2251799813685248 := by rw [ho, e1]; rfl
  have s5b : 0 ≤ s5 ∧ s5 < 18446744073709551616 := by omega
  have s6b : 0 ≤ s6 ∧ s6 ≤ 1 := by omega
  rw [r1, and_mask s5b.1 s5b.2, wrap64 (x := cl * 19 / 18446744073709551616 + s6) (by omega) (by omega), or_shift s5b (by omega)]
  have hN : s5 + 18446744073709551616 * (cl * 19 / 18446744073709551616 + s6) = 19 * cl + (col xs ys 25 0 + cc xs ys 0) % 2251799813685248 := by omega
  have h8 : 0 ≤ cl * 19 / 18446744073709551616 + s6 ∧ cl * 19 / 18446744073709551616 + s6 ≤ 8 := by omega
  have hj : 0 ≤ s5 / 2251799813685248 ∧ s5 / 2251799813685248 < 8192 := by omega
  have h9 : (cl * 19 / 18446744073709551616 + s6) * 8192 % 18446744073709551616 = (cl * 19 / 18446744073709551616 + s6) * 8192 := by omega
  rw [h9, wrap64 (by omega) (by omega), ho, e1]
  show Lim _ [s5 % 2251799813685248, _, _, _, _] ∧ val [s5 % 2251799813685248, _, _, _, _] % P = _
  refine ⟨⟨rfl, fun x hx => ?_⟩, ?_⟩
  · simp only [List.mem_cons, List.not_mem_nil, or_false] at hx
    rcases hx with rfl | rfl | rfl | rfl | rfl <;> omega
  · have hv : val [s5 % 2251799813685248, (col xs ys 25 1 + cc xs ys 1) % 2251799813685248 + (s5 / 2251799813685248 + (cl * 19 / 18446744073709551616 + s6) * 8192), (col xs ys 25 2 + cc xs ys 2) % 2251799813685248, (col xs ys 25 3 + cc xs ys 3) % 2251799813685248, (col xs ys 25 4 + cc xs ys 4) % 2251799813685248] =
        val [col xs ys 25 0, col xs ys 25 1, col xs ys 25 2, col xs ys 25 3, col xs ys 25 4] - P * cl := by
      have c0 : cc xs ys 0 = 0 := rfl
      have c1 : cc xs ys 1 = (col xs ys 25 0 + cc xs ys 0) / 2251799813685248 := rfl
      have c2 : cc xs ys 2 = (col xs ys 25 1 + cc xs ys 1) / 2251799813685248 := rfl
      have c3 : cc xs ys 3 = (col xs ys 25 2 + cc xs ys 2) / 2251799813685248 := rfl
      have c4 : cc xs ys 4 = (col xs ys 25 3 + cc xs ys 3) / 2251799813685248 := rfl
      have c5 : cc xs ys 5 = (col xs ys 25 4 + cc xs ys 4) / 2251799813685248 := rfl
      generalize cc xs ys 0 = k0 at *
      generalize cc xs ys 1 = k1 at *
      generalize cc xs ys 2 = k2 at *
      generalize cc xs ys 3 = k3 at *
      generalize cc xs ys 4 = k4 at *
      generalize cc xs ys 5 = k5 at *
      generalize col xs ys 25 0 = q0 at *
      generalize col xs ys 25 1 = q1 at *
      generalize col xs ys 25 2 = q2 at *
      generalize col xs ys 25 3 = q3 at *
      generalize col xs ys 25 4 = q4 at *
      clear r0 r1 e1 ho he5 he6
      simp only [val, List.foldr_cons, List.foldr_nil, P]
      omega
    rw [hv, Int.sub_mul_emod_self_left, ← hE.v, ← hF.v]
    obtain ⟨⟨lx, _⟩, _⟩ := hE
    obtain ⟨⟨ly, _⟩, _⟩ := hF
    match xs, lx, ys, ly with
    | [a0, a1, a2, a3, a4], _, [b0, b1, b2, b3, b4], _ =>
      have hm := mul_val a0 a1 a2 a3 a4 b0 b1 b2 b3 b4
      have f0 : col [a0, a1, a2, a3, a4] [b0, b1, b2, b3, b4] 25 0 = a0 * b0 + a1 * (19 * b4) + a2 * (19 * b3) + a3 * (19 * b2) + a4 * (19 * b1) := by
        show 0 + a0 * b0 + 0 + 0 + 0 + 0 + 0 + 0 + 0 + 0 + a1 * (b4 * 19) + 0 + 0 + 0 + a2 * (b3 * 19) + 0 + 0 + 0 + a3 * (b2 * 19) + 0 + 0 + 0 + a4 * (b1 * 19) + 0 + 0 + 0 = _
        grind
      have f1 : col [a0, a1, a2, a3, a4] [b0, b1, b2, b3, b4] 25 1 = a0 * b1 + a1 * b0 + a2 * (19 * b4) + a3 * (19 * b3) + a4 * (19 * b2) := by
        show 0 + 0 + a0 * b1 + 0 + 0 + 0 + a1 * b0 + 0 + 0 + 0 + 0 + 0 + 0 + 0 + 0 + a2 * (b4 * 19) + 0 + 0 + 0 + a3 * (b3 * 19) + 0 + 0 + 0 + a4 * (b2 * 19) + 0 + 0 = _
        grind
      have f2 : col [a0, a1, a2, a3, a4] [b0, b1, b2, b3, b4] 25 2 = a0 * b2 + a1 * b1 + a2 * b0 + a3 * (19 * b4) + a4 * (19 * b3) := by
        show 0 + 0 + 0 + a0 * b2 + 0 + 0 + 0 + a1 * b1 + 0 + 0 + 0 + a2 * b0 + 0 + 0 + 0 + 0 + 0 + 0 + 0 + 0 + a3 * (b4 * 19) + 0 + 0 + 0 + a4 * (b3 * 19) + 0 = _
        grind
      have f3 : col [a0, a1, a2, a3, a4] [b0, b1, b2, b3, b4] 25 3 = a0 * b3 + a1 * b2 + a2 * b1 + a3 * b0 + a4 * (19 * b4) := by
        show 0 + 0 + 0 + 0 + a0 * b3 + 0 + 0 + 0 + a1 * b2 + 0 + 0 + 0 + a2 * b1 + 0 + 0 + 0 + a3 * b0 + 0 + 0 + 0 + 0 + 0 + 0 + 0 + 0 + a4 * (b4 * 19) = _
        grind
      have f4 : col [a0, a1, a2, a3, a4] [b0, b1, b2, b3, b4] 25 4 = a0 * b4 + a1 * b3 + a2 * b2 + a3 * b1 + a4 * b0 := by
        show 0 + 0 + 0 + 0 + 0 + a0 * b4 + 0 + 0 + 0 + a1 * b3 + 0 + 0 + 0 + a2 * b2 + 0 + 0 + 0 + a3 * b1 + 0 + 0 + 0 + a4 * b0 + 0 + 0 + 0 + 0 = _
        grind
      rw [f0, f1, f2, f3, f4, ← Int.mul_emod]
      rw [show val [a0, a1, a2, a3, a4] * val [b0, b1, b2, b3, b4] = _ from (Int.sub_eq_iff_eq_add.1 hm)]
      rw [Int.mul_add_emod_self_left]
end Go.Proofs.Ytaaplakahkgclaa.SL.F
