/- Reading and writing single numbers. -/
import Derived.Test.YtjhinpmnpdgadaaDoorSLj
namespace Go.Proofs.YtjhinpmnpdgadaaDoor.SL
set_option linter.unusedVariables false
set_option linter.unusedSimpArgs false
open Go
section
variable {X : Cx} {U : Tab} (hU : U.OK X.P) {t : Env} {D : List Fact} {φ : Env → List Fact → Prop}
include hU
theorem Step.load_num {d : Nat} {ty : TypeId} {x : Operand} (k0 : Nat) (f : Fact) (A : Option Addr) (i : Int) (kd : IntKind) (xs : List Int) (hty : look U.und ty = some (.int kd)) (hx : ev t x = some (.pointer (elemAt A i 1))) (hD : D[k0]? = some f) (ht : Tells f A (nums kd xs))
    (hd : Nat.ble (d + 1) X.N = true) (hi : 0 ≤ i ∧ i < xs.length) (k : φ (put t d (.int kd (xs.getD i.toNat 0))) D) : Step X (some d) (.load ty x) t D φ :=
  Step.load hU k0 f A i 1 (nums kd xs) _ hx hD ht (by rw [nums_length]; omega) (by rw [Nat.mul_one]; exact loadv_num hty xs _ (by omega)) hd k
theorem Reads.load_num {Θ : List Fact} {d : Option Nat} {ty : TypeId} {x : Operand} (k0 : Nat) (f : Fact) (A : Option Addr) (i : Int) (kd : IntKind) (xs : List Int) (hty : look U.und ty = some (.int kd)) (hx : ev t x = some (.pointer (elemAt A i 1))) (hD : Θ[k0]? = some f) (ht : Tells f A (nums kd xs))
    (hi : 0 ≤ i ∧ i < xs.length) : Reads X Θ d (.load ty x) t (.int kd (xs.getD i.toNat 0)) :=
  Reads.load hU k0 f A i 1 (nums kd xs) _ hx hD ht (by rw [nums_length]; omega) (by rw [Nat.mul_one]; exact loadv_num hty xs _ (by omega))
theorem Step.store_num {ty : TypeId} {x y : Operand} (k0 T n cap : Nat) (A : Option Addr) (kd : IntKind) (xs : List Int) (i v : Int) (hx : ev t x = some (.pointer (elemAt A i 1))) (hy : ev t y = some (.int kd v)) (hD : D[k0]? = some (row T 1 (.slice A n cap) n (nums kd xs))) (hm : look U.sz ty = some 1)
    (hi : 0 ≤ i ∧ i < xs.length) (k : φ t (row T 1 (.slice A n cap) n (nums kd (xs.set i.toNat v)) :: D.eraseIdx k0)) : Step X none (.store ty x y) t D φ := by
  refine Step.store_row hU k0 T 1 n cap A (nums kd xs) i (.int kd v) hx hy hD 1 hm [.int kd v] rfl rfl rfl (by rw [nums_length]; omega) (by rw [nums_length]; omega) ?_
  rw [Nat.mul_one, nums_wr _ _ _ _ (by omega)]
  exact k
end

theorem fits_wrap (k : IntKind) (e : Int) : fits k (IntKind.wrap k e) := by cases k <;> simp [fits, IntKind.wrap, IntKind.bits, IntKind.signed] <;> omega
theorem fits_bits2 (op : BinOp) (k : IntKind) (a b : Int) : fits k (bits2 op k a b) := by cases op <;> simp only [bits2] <;> first | exact fits_wrap _ _ | exact fits_zero k
/-- A mask bounds. -/
theorem and_le (k : IntKind) (hk : k.signed = false) (a m : Int) (h0 : 0 ≤ m) (h1 : m < 2 ^ k.bits) : 0 ≤ bits2 .and k a m ∧ bits2 .and k a m ≤ m := by
  obtain ⟨n, rfl⟩ := Int.eq_ofNat_of_zero_le h0
  have hn : n < 2 ^ k.bits := by exact_mod_cast h1
  have e : (BitVec.ofInt k.bits (n : Int)).toNat = n := by
    rw [BitVec.toNat_ofInt, Int.emod_eq_of_lt h0 (by exact_mod_cast hn)]; rfl
  have hle : (BitVec.ofInt k.bits a &&& BitVec.ofInt k.bits (n : Int)).toNat ≤ n := by
    rw [BitVec.toNat_and, e]; exact Nat.and_le_right
  unfold bits2 IntKind.wrap
  simp only [hk, Bool.false_and, Bool.false_eq_true, if_false]
  generalize (BitVec.ofInt k.bits a &&& BitVec.ofInt k.bits (n : Int)).toNat = r at hle
  rw [Int.emod_eq_of_lt (by omega) (by have : r < 2 ^ k.bits := by omega
                                       exact_mod_cast this)]
  omega
theorem vw_some {w0 : World} {W : FP} {D : List Fact} {w : World} (h : SAT w0 W D w) (k : Nat) {A : Option Addr} {cs : List Value} (hk : D[k]? = some (vw A cs)) {n : Nat} (hn : cs.length = n) : 0 < n → A.isSome = true := fun hp => by
  obtain ⟨fp, hP⟩ := h.get k hk
  obtain ⟨a, rfl, _⟩ := vw_cells hP (by omega)
  rfl
theorem part_some {A : Option Addr} (h : A.isSome = true) (l m s : Nat) : (subBase A l m s).isSome = true := by
  unfold subBase
  split
  · exact h
  · obtain ⟨a, rfl⟩ := Option.isSome_iff_exists.1 h; rfl
theorem tells_sub_nums {f : Fact} {A : Option Addr} {k : IntKind} {xs : List Int} (h : Tells f A (nums k xs)) (l m n : Nat) (hl : l + n ≤ xs.length) (hm : n ≠ 0 → m ≠ l) : Tells f (subBase A l m 1) (nums k ((xs.drop l).take n)) := by
  have hlen : ((xs.drop l).take n).length = n := by simp; omega
  refine tells_part h l m 1 _ ?_ (fun hne => hm (fun h0 => hne (by subst h0; simp [nums])))
  rw [Nat.mul_one, nums_length, hlen]
  simp [nums, List.map_take, List.map_drop]

/-! ### What a call that changed nothing old leaves -/
theorem Frame.below {w w' : World} (h : Frame w (fun _ => False) w') : RowKit.Below w.heap.size w w' := ⟨h.os, h.tape, h.output, h.size, fun k hk => h.block k hk (fun h => h)⟩
theorem SAT.start (w : World) : SAT w (fun _ => False) [] w := ⟨Frame.refl _ _, fun _ => False, fun _ => False, trivial, fun _ h => h.elim, fun _ h => h.elim, fun _ h => h.elim id id |>.elim⟩
/-- An argument that is read. -/
theorem SAT.arg {w : World} {D : List Fact} (h : SAT w (fun _ => False) D w) (A : Option Addr) (cs : List Value) (hc : 0 < cs.length → ∃ a, A = some a ∧ ∀ j v, cs[j]? = some v → w.cell? (a.add j) = some v) : SAT w (fun _ => False) (vw A cs :: D) w := by
  obtain ⟨fr, O, R, h1, h2, h3, h4⟩ := h
  have hO : ∀ b, ¬ O b := fun b hb => by
    rcases h3 b hb with h | h
    · have := h4 b (.inl hb); omega
    · exact h
  refine ⟨fr, O, fun b => b < w.heap.size, ⟨fun b => b < w.heap.size, ⟨fun _ h => h, fun hp => ?_⟩, fun _ h => h, sat_mono h1 (fun _ h => h) (fun b hb => h4 b (.inr hb))⟩, fun b hb => absurd hb (hO b), h3, fun b hb => hb.elim (fun h => absurd h (hO b)) id⟩
  obtain ⟨a, hA, hcell⟩ := hc hp
  refine ⟨a, hA, ?_, hcell⟩
  have := hcell 0 cs[0] (by simp)
  have := World.block_lt_of_cell? w _ this
  rwa [add_block] at this
/-- A law's run, out of its contract. -/
theorem CallsS.law {P : Program} {f : FuncId} {args : List Value} {D : List Fact} (h : CallsS P f args D fun r D' => r = .bool true ∧ D' = []) {w : World} (hs : SAT w (fun _ => False) D w) :
    Calls P f args.toArray w fun e w' => e = .returned (.bool true) ∧ RowKit.Below w.heap.size w w' :=
  (h.2 w _ hs).mono fun _ _ ⟨r, D', h1, ⟨h2, _⟩, _, h4⟩ => ⟨by rw [h1, h2], h4.fr.below⟩
end Go.Proofs.YtjhinpmnpdgadaaDoor.SL
