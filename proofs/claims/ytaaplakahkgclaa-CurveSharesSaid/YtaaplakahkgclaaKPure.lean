/- The curve: plain laws. -/
import Derived.Test.YtaaplakahkgclaaIPure
import Derived.Test.YtaaplakahkgclaaSLzh
namespace Go.Proofs.Ytaaplakahkgclaa.SL.K
set_option linter.unusedVariables false
set_option linter.unusedSimpArgs false
open Go Go.Proofs.Ytaaplakahkgclaa.SL Go.Proofs.Ytaaplakahkgclaa.SL.W Go.Proofs.Ytaaplakahkgclaa.SL.F Go.Proofs.Ytaaplakahkgclaa.SL.N Go.Proofs.Ytaaplakahkgclaa.SL.E

theorem nil_of_none {A : Option Addr} {xs : List Int} (h : Option.isNone A = true) (hA : 0 < xs.length → Option.isSome A = true) : xs = [] := by
  cases xs with
  | nil => rfl
  | cons x xs =>
    have := hA (by simp)
    cases A <;> simp_all
def ak (x z : Int) : Int := ((x + z) % P * ((x + z) % P)) % P
def bk (x z : Int) : Int := ((x - z) % P * ((x - z) % P)) % P
def ek (x z : Int) : Int := (ak x z - bk x z) % P
def dk (x2 z2 x3 z3 : Int) : Int := ((x3 - z3) % P * ((x2 + z2) % P)) % P
def ck (x2 z2 x3 z3 : Int) : Int := ((x3 + z3) % P * ((x2 - z2) % P)) % P
def nx2 (x z : Int) : Int := (ak x z * bk x z) % P
def nz2 (x z : Int) : Int := (ek x z * ((ak x z + (121665 * ek x z) % P) % P)) % P
def nx3 (x2 z2 x3 z3 : Int) : Int := ((dk x2 z2 x3 z3 + ck x2 z2 x3 z3) % P * ((dk x2 z2 x3 z3 + ck x2 z2 x3 z3) % P)) % P
def nz3 (u x2 z2 x3 z3 : Int) : Int := (u * (((dk x2 z2 x3 z3 - ck x2 z2 x3 z3) % P * ((dk x2 z2 x3 z3 - ck x2 z2 x3 z3) % P)) % P)) % P
abbrev Q4 := Int × Int × Int × Int
def stp (u : Int) (s : Q4) : Q4 := (nx2 s.1 s.2.1, nz2 s.1 s.2.1, nx3 s.1 s.2.1 s.2.2.1 s.2.2.2, nz3 u s.1 s.2.1 s.2.2.1 s.2.2.2)
def sw4 (b : Int) (s : Q4) : Q4 := if b % 2 = 1 then (s.2.2.1, s.2.2.2, s.1, s.2.1) else s
def bitK (ks : List Int) (t : Nat) : Int := ks.getD (t / 8) 0 / 2 ^ (t % 8) % 2
def lad (ks : List Int) (u : Int) : Nat → Q4
  | 0 => (1, 0, u, 1)
  | n + 1 => sw4 (bitK ks (254 - n)) (stp u (sw4 (bitK ks (254 - n)) (lad ks u n)))
def ladR (ks : List Int) (u : Int) : Int := ((lad ks u 255).1 * pw (lad ks u 255).2.1 EN) % P
theorem sw4_twice (b : Int) (s : Q4) : sw4 b (sw4 b s) = s := by
  unfold sw4
  split
  · rfl
  · rfl
theorem bitK_01 (ks : List Int) (t : Nat) : bitK ks t = 0 ∨ bitK ks t = 1 := by unfold bitK; omega
theorem swv_sw4 {l b X : Int} {x2 z2 x3 z3 : Int} {s : Q4} (hs : (x2, z2, x3, z3) = sw4 l s) (hl : l = 0 ∨ l = 1) (hb : b = 0 ∨ b = 1) (hX : X = bits2 .xor .u64 l b) : (swv X x2 x3, swv X z2 z3, swv X x3 x2, swv X z3 z2) = sw4 b s := by
  obtain ⟨a, c, d, e⟩ := s
  have h00 : bits2 .xor .u64 0 0 = 0 := by decide +kernel
  have h01 : bits2 .xor .u64 0 1 = 1 := by decide +kernel
  have h10 : bits2 .xor .u64 1 0 = 1 := by decide +kernel
  have h11 : bits2 .xor .u64 1 1 = 0 := by decide +kernel
  rcases hl with rfl | rfl <;> rcases hb with rfl | rfl <;> simp only [h00, h01, h10, h11] at hX <;> subst hX <;> simp [sw4] at hs <;> obtain ⟨rfl, rfl, rfl, rfl⟩ := hs <;> simp [swv, sw4]
theorem climb_step {ks : List Int} {u l b X : Int} {n : Nat} {x2 z2 x3 z3 a2 c2 a3 c3 : Int} (hs : (x2, z2, x3, z3) = sw4 l (lad ks u n)) (hl : l = 0 ∨ l = 1) (hb : b = bitK ks (254 - n)) (hX : X = bits2 .xor .u64 l b)
    (h : (a2, c2, a3, c3) = stp u (swv X x2 x3, swv X z2 z3, swv X x3 x2, swv X z3 z2)) : (a2, c2, a3, c3) = sw4 b (lad ks u (n + 1)) := by
  have hb01 : b = 0 ∨ b = 1 := by rw [hb]; exact bitK_01 _ _
  rw [h, swv_sw4 hs hl hb01 hX, lad, ← hb, sw4_twice]
theorem climb_end {ks : List Int} {u l : Int} {n : Nat} {x2 z2 x3 z3 : Int} (hs : (x2, z2, x3, z3) = sw4 l (lad ks u n)) (hl : l = 0 ∨ l = 1) (hn : n = 255) : (swv l x2 x3 * pw (swv l z2 z3) EN) % P = ladR ks u := by
  have h := swv_sw4 (b := 0) (X := l) hs hl (.inl rfl) (by rcases hl with rfl | rfl <;> decide +kernel)
  have e : sw4 0 (lad ks u n) = lad ks u n := rfl
  rw [e, hn] at h
  rw [ladR, ← h]
theorem lad_zero {ks : List Int} {u : Int} {n : Nat} {x2 z2 x3 z3 : Int} (hs : (x2, z2, x3, z3) = lad ks u n) (hb : ¬ bitK ks (254 - n) = 1) : (nx2 x2 z2, nz2 x2 z2, nx3 x2 z2 x3 z3, nz3 u x2 z2 x3 z3) = lad ks u (n + 1) := by
  have h0 : ¬ bitK ks (254 - n) % 2 = 1 := by rcases bitK_01 ks (254 - n) with h | h <;> omega
  rw [lad, ← hs, sw4, sw4, if_neg h0, if_neg h0]
  rfl
theorem lad_one {ks : List Int} {u : Int} {n : Nat} {x2 z2 x3 z3 : Int} (hs : (x2, z2, x3, z3) = lad ks u n) (hb : bitK ks (254 - n) = 1) : (nx3 x3 z3 x2 z2, nz3 u x3 z3 x2 z2, nx2 x3 z3, nz2 x3 z3) = lad ks u (n + 1) := by
  rw [lad, ← hs, hb]
  rfl
theorem ladR_of {ks : List Int} {u : Int} {n : Nat} {x2 z2 x3 z3 : Int} (hs : (x2, z2, x3, z3) = lad ks u n) (hn : n = 255) : (x2 * pw z2 EN) % P = ladR ks u := by
  rw [hn] at hs
  rw [ladR, ← hs]
theorem five {xs : List Int} (h : xs.length = 5) : ∃ a b c d e, xs = [a, b, c, d, e] := by
  match xs, h with
  | [a, b, c, d, e], _ => exact ⟨a, b, c, d, e, rfl⟩
def clampL (ks : List Int) : List Int := (ks.set 0 (ks.getD 0 0 / 8 * 8)).set 31 (ks.getD 31 0 % 64 + 64)
theorem and248 : ∀ a : Fin 256, bits2 .and .u8 (a.val : Int) 248 = (a.val : Int) / 8 * 8 := by decide +kernel
theorem or64 : ∀ a : Fin 256, bits2 .or .u8 (bits2 .and .u8 (a.val : Int) 127) 64 = (a.val : Int) % 64 + 64 := by decide +kernel
theorem fin_of {P : Int → Prop} (n : Nat) (h : ∀ a : Fin n, P (a.val : Int)) {x : Int} (h0 : 0 ≤ x ∧ x < n) : P x := by
  have := h ⟨x.toNat, by omega⟩
  simp only [Int.toNat_of_nonneg h0.1] at this
  exact this
theorem set_other {xs : List Int} {i j : Nat} {v : Int} (h : i ≠ j) : (xs.set i v).getD j 0 = xs.getD j 0 := by
  rw [List.getD_eq_getElem?_getD, List.getD_eq_getElem?_getD, List.getElem?_set_ne h]
theorem clamp_a {ks zs : List Int} (hi : In .u8 zs) (hl : ks.length = 32) (hz : zs = ks) :
    (zs.set (0 : Int).toNat (bits2 .and .u8 (zs.getD (0 : Int).toNat 0) 248)).set (31 : Int).toNat (bits2 .or .u8 (bits2 .and .u8 ((zs.set (0 : Int).toNat (bits2 .and .u8 (zs.getD (0 : Int).toNat 0) 248)).getD (31 : Int).toNat 0) 127) 64) = clampL ks := by
  subst hz
  show (zs.set 0 (bits2 .and .u8 (zs.getD 0 0) 248)).set 31 (bits2 .or .u8 (bits2 .and .u8 ((zs.set 0 (bits2 .and .u8 (zs.getD 0 0) 248)).getD 31 0) 127) 64) = _
  rw [set_other (by decide), fin_of (P := fun x => bits2 .and .u8 x 248 = x / 8 * 8) 256 and248 (hi.at_ 0), fin_of (P := fun x => bits2 .or .u8 (bits2 .and .u8 x 127) 64 = x % 64 + 64) 256 or64 (hi.at_ 31)]
  rfl
theorem clamp_b {ks zs : List Int} (hz : zs = ks) : (zs.set (0 : Int).toNat (zs.getD (0 : Int).toNat 0 / 8 * 8)).set (31 : Int).toNat ((zs.set (0 : Int).toNat (zs.getD (0 : Int).toNat 0 / 8 * 8)).getD (31 : Int).toNat 0 % 64 + 64) = clampL ks := by
  subst hz
  show (zs.set 0 (zs.getD 0 0 / 8 * 8)).set 31 ((zs.set 0 (zs.getD 0 0 / 8 * 8)).getD 31 0 % 64 + 64) = _
  rw [set_other (by decide)]
  rfl
theorem clamp_in {ks : List Int} (h : In .u8 ks) : In .u8 (clampL ks) := by
  have h0 : 0 ≤ ks.getD 0 0 ∧ ks.getD 0 0 < 256 := h.at_ 0
  have h1 : 0 ≤ ks.getD 31 0 ∧ ks.getD 31 0 < 256 := h.at_ 31
  exact In.set (In.set h _ ⟨by omega, by omega⟩) _ ⟨by omega, by omega⟩
theorem and1 : ∀ a : Fin 256, bits2 .and .u64 (a.val : Int) 1 = (a.val : Int) % 2 := by decide +kernel
theorem bit_01 (x : Int) : bits2 .and .u64 x 1 = 0 ∨ bits2 .and .u64 x 1 = 1 := by
  have := and_le .u64 rfl x 1 (by decide) (by decide)
  omega
theorem mod2_and {x : Int} (h : 0 ≤ x ∧ x < 256) : bits2 .and .u64 x 1 = x % 2 := fin_of (P := fun x => bits2 .and .u64 x 1 = x % 2) 256 and1 h
theorem div_bd {x : Int} (h : 0 ≤ x ∧ x < 256) (n : Nat) : 0 ≤ x / 2 ^ n ∧ x / 2 ^ n < 256 := by
  have hp : (0 : Int) < 2 ^ n := Int.pow_pos (by decide)
  exact ⟨Int.ediv_nonneg h.1 (Int.le_of_lt hp), Int.lt_of_le_of_lt (Int.ediv_le_self _ h.1) h.2⟩
theorem bit_a {ks : List Int} {i : Int} (h : In .u8 ks) (h0 : 0 ≤ i) (h1 : i < 255) : bits2 .and .u64 (ks.getD ((254 - i) / 8).toNat 0 / 2 ^ (min ((254 - i) % 8).toNat 8)) 1 = bitK ks (254 - i.toNat) := by
  rw [mod2_and (div_bd (h.at_ _) _), bitK, show ((254 - i) / 8).toNat = (254 - i.toNat) / 8 by omega, show min ((254 - i) % 8).toNat 8 = (254 - i.toNat) % 8 by omega]
theorem bit_is {ks : List Int} {i : Int} (h0 : 0 ≤ i) (h1 : i < 255) : ks.getD (i / 8).toNat 0 / 2 ^ (min (i % 8).toNat 8) % 2 = bitK ks (254 - (254 - i).toNat) := by
  rw [bitK, show (i / 8).toNat = (254 - (254 - i).toNat) / 8 by omega, show min (i % 8).toNat 8 = (254 - (254 - i).toNat) % 8 by omega]
theorem bit_b {ks : List Int} {i : Int} (h : In .u8 ks) (h0 : 0 ≤ i) (h1 : i < 255) (hb : ks.getD (i / 8).toNat 0 / 2 ^ (min (i % 8).toNat 8) % 2 = 1) : bitK ks (254 - (254 - i).toNat) = 1 := by rw [← bit_is h0 h1]; exact hb
theorem bit_c {ks : List Int} {i : Int} (h : In .u8 ks) (h0 : 0 ≤ i) (h1 : i < 255) (hb : ¬ ks.getD (i / 8).toNat 0 / 2 ^ (min (i % 8).toNat 8) % 2 = 1) : ¬ bitK ks (254 - (254 - i).toNat) = 1 := by rw [← bit_is h0 h1]; exact hb
def shr (ks ps : List Int) : Int := ladR (clampL ks) (fromV ps % P)
def ShareS (ks ps : List Int) (e : Int) (zs : List Int) : Prop :=
  (¬ (ks.length = 32 ∧ ps.length = 32) ∧ e = 1 ∧ zs = []) ∨ (ks.length = 32 ∧ ps.length = 32 ∧ shr ks ps = 0 ∧ e = 10 ∧ zs = []) ∨ (ks.length = 32 ∧ ps.length = 32 ∧ shr ks ps ≠ 0 ∧ e = 0 ∧ Dg zs (shr ks ps))
def PubS (ks : List Int) (e : Int) (zs : List Int) : Prop := (ks.length ≠ 32 ∧ e = 1 ∧ zs = []) ∨ (ks.length = 32 ∧ e = 0 ∧ Dg zs (ladR (clampL ks) 9))
abbrev ClampS (ks : List Int) (e : Int) (zs : List Int) : Prop := (ks.length = 32 ∧ e = 0 ∧ zs = clampL ks) ∨ (¬ ks.length = 32 ∧ e = 1 ∧ zs = [])
theorem dg0 : Dg (List.replicate 32 0) 0 := ⟨by decide +kernel, by decide, by decide⟩
theorem clamp_ok {ks zs : List Int} {e : Int} (h : ClampS ks e zs) (he : e = 0) : ks.length = 32 ∧ zs = clampL ks := by
  rcases h with h | h
  · exact ⟨h.1, h.2.2⟩
  · omega
theorem clamp_bad {ks zs : List Int} {e : Int} (h : ClampS ks e zs) (he : ¬ e = 0) : ks.length ≠ 32 ∧ e = 1 := by
  rcases h with h | h
  · omega
  · exact ⟨h.1, h.2.1⟩
theorem share_bad {ks ps : List Int} (h : ¬ (ks.length = 32 ∧ ps.length = 32)) : ShareS ks ps 1 [] := .inl ⟨h, rfl, rfl⟩
theorem share_low {ks ps zk z zz : List Int} (l1 : ks.length = 32) (l2 : ps.length = 32) (hk : zk = clampL ks) (hd : Dg z (ladR zk (fromV ps % P))) (hz : z = zz) (h0 : Dg zz 0) : ShareS ks ps 10 [] := by
  subst hk
  exact .inr (.inl ⟨l1, l2, (hd.inj h0).1 hz, rfl, rfl⟩)
theorem share_end {ks ps zk z zz zo : List Int} (l1 : ks.length = 32) (l2 : ps.length = 32) (hk : zk = clampL ks) (hz : ¬ z = zz) (hd : Dg z (ladR zk (fromV ps % P))) (h0 : Dg zz 0) (ho : Dg zo (ladR zk (fromV ps % P))) : ShareS ks ps 0 zo := by
  subst hk
  exact .inr (.inr ⟨l1, l2, fun h => hz ((hd.inj h0).2 h), rfl, ho⟩)
theorem dg_rep {n : Nat} (h : n = 32) : Dg (List.replicate n 0) 0 := by rw [h]; exact dg0
theorem pub_bad {ks : List Int} (h : ks.length ≠ 32) : PubS ks 1 [] := .inl ⟨h, rfl, rfl⟩
theorem pub_end {ks zk z : List Int} {u : Int} (l1 : ks.length = 32) (hk : zk = clampL ks) (hd : Dg z (ladR zk u)) (hu : u = 9) : PubS ks 0 z := by
  subst hk; subst hu
  exact .inr ⟨l1, rfl, hd⟩
theorem share_same {ks ps zs ys : List Int} {e f : Int} (h : ShareS ks ps e zs) (g : ShareS ks ps f ys) : e = f ∧ zs = ys := by
  rcases h with h | h | h <;> rcases g with g | g | g
  · exact ⟨h.2.1.trans g.2.1.symm, h.2.2.trans g.2.2.symm⟩
  · exact absurd ⟨g.1, g.2.1⟩ h.1
  · exact absurd ⟨g.1, g.2.1⟩ h.1
  · exact absurd ⟨h.1, h.2.1⟩ g.1
  · exact ⟨h.2.2.2.1.trans g.2.2.2.1.symm, h.2.2.2.2.trans g.2.2.2.2.symm⟩
  · exact absurd h.2.2.1 g.2.2.1
  · exact absurd ⟨h.1, h.2.1⟩ g.1
  · exact absurd g.2.2.1 h.2.2.1
  · exact ⟨h.2.2.2.1.trans g.2.2.2.1.symm, (h.2.2.2.2.inj g.2.2.2.2).2 rfl⟩
theorem pub_code {ks zs : List Int} {e : Int} (h : PubS ks e zs) (l1 : ks.length = 32) : e = 0 ∧ zs.length = 32 := by
  rcases h with h | h
  · exact absurd l1 h.1
  · exact ⟨h.2.1, h.2.2.len⟩
theorem pub_nil {zs : List Int} {e : Int} (h : PubS [] e zs) : e = 1 := by
  rcases h with h | h
  · exact h.2.1
  · exact absurd h.1 (by decide)
theorem stp_zero (s : Q4) (h : s.1 = 0 ∨ s.2.1 = 0) : (stp 0 s).2.1 = 0 ∧ (stp 0 s).2.2.2 = 0 := by
  have ea : ak s.1 s.2.1 = bk s.1 s.2.1 := by
    unfold ak bk
    rcases h with h | h <;> rw [h]
    · rw [Int.zero_add, Int.zero_sub, ← Int.mul_emod, ← Int.mul_emod, Int.neg_mul_neg]
    · rw [Int.add_zero, Int.sub_zero]
  constructor
  · show nz2 _ _ = 0
    rw [nz2, ek, ea, Int.sub_self]
    simp
  · show nz3 0 _ _ _ _ = 0
    rw [nz3, Int.zero_mul]
    rfl
theorem lad_z (ks : List Int) : ∀ n, ((lad ks 0 n).1 = 0 ∨ (lad ks 0 n).2.1 = 0) ∧ ((lad ks 0 n).2.2.1 = 0 ∨ (lad ks 0 n).2.2.2 = 0) ∧ (0 < n → (lad ks 0 n).2.1 = 0 ∧ (lad ks 0 n).2.2.2 = 0)
  | 0 => ⟨.inr rfl, .inl rfl, fun h => by omega⟩
  | n + 1 => by
    obtain ⟨h1, h2, _⟩ := lad_z ks n
    have hs : (sw4 (bitK ks (254 - n)) (lad ks 0 n)).1 = 0 ∨ (sw4 (bitK ks (254 - n)) (lad ks 0 n)).2.1 = 0 := by
      unfold sw4
      split
      · exact h2
      · exact h1
    obtain ⟨g1, g2⟩ := stp_zero _ hs
    have k : (lad ks 0 (n + 1)).2.1 = 0 ∧ (lad ks 0 (n + 1)).2.2.2 = 0 := by
      rw [lad]
      generalize stp 0 (sw4 (bitK ks (254 - n)) (lad ks 0 n)) = q at *
      unfold sw4
      split
      · exact ⟨g2, g1⟩
      · exact ⟨g1, g2⟩
    exact ⟨.inr k.1, .inr k.2, fun _ => k⟩
theorem ladR_zero (ks : List Int) : ladR ks 0 = 0 := by
  have h := ((lad_z ks 255).2.2 (by decide)).1
  rw [ladR, h, pw, Int.zero_pow (by decide : EN ≠ 0)]
  simp
theorem low_zero {ks ps zs : List Int} {e : Int} (h : ShareS ks ps e zs) (hl : ks.length = 32) (hp : ps = List.replicate 32 0) : e = 10 := by
  have hz : shr ks ps = 0 := by
    rw [shr, hp, show fromV (List.replicate 32 0) % P = 0 by decide +kernel]
    exact ladR_zero _
  rcases h with h | h | h
  · exact absurd ⟨hl, by rw [hp]; rfl⟩ h.1
  · exact h.2.2.2.1
  · exact absurd hz h.2.2.1
def keyL : List Int := [0x77, 0x07, 0x6d, 0x0a, 0x73, 0x18, 0xa5, 0x7d, 0x3c, 0x16, 0xc1, 0x72, 0x51, 0xb2, 0x66, 0x45, 0xdf, 0x4c, 0x2f, 0x92, 0xeb, 0xc0, 0x99, 0xac, 0x7a, 0x7d, 0x5a, 0x72, 0xd4, 0xa3, 0xa0, 0x2a]
theorem sb_cut (s t : ByteArray) (a b : Nat) : sb (ByteArray.extract s a b ++ t) = ((sb s).drop a).take (b - a) ++ sb t := by
  simp only [sb, ByteArray.data_append, ByteArray.data_extract, Array.toList_append, Array.toList_extract, List.map_append, List.extract_eq_take_drop, List.map_take, List.map_drop]
theorem awake_k {zs l : List Int} {ok : Bool} (h : (if ok = true then some zs else none) = some l) (hl : l.length = 32) : zs.length = 32 := by
  cases ok with
  | true => simp at h; rw [h, hl]
  | false => simp at h
theorem leN_set {ps : List Int} {v : Int} : ∀ n i, n ≤ i → leN (ps.set i v) n = leN ps n
  | 0, i, h => rfl
  | n + 1, i, h => by rw [leN, leN, leN_set n i (by omega), set_other (by omega)]
end Go.Proofs.Ytaaplakahkgclaa.SL.K
