/- Poly1305: plain laws. -/
import Derived.Test.YtjhinpmnpdgadaaDoorNPure
import Derived.Test.YtjhinpmnpdgadaaDoorSLx
namespace Go.Proofs.YtjhinpmnpdgadaaDoor.SL.Y
set_option linter.unusedVariables false
set_option linter.unusedSimpArgs false
open Go Go.Proofs.YtjhinpmnpdgadaaDoor.SL Go.Proofs.YtjhinpmnpdgadaaDoor.SL.W
open Go.Proofs.YtjhinpmnpdgadaaDoor.SL.F (mapP mapP_len mapP_at mapP_step set_at wrap64 wrap_mod five getD_app_r)
open Go.Proofs.YtjhinpmnpdgadaaDoor.SL.N (leN_split leN_succ leN_set leN_same leN_eq leN_sum sumN mapP_get mapP_tail leB_leN leN_ge leN_nil ext_getD cf df gs cf_sum p32)
/-! ### Chunks -/
def chunk (n : Nat) (xs : List Int) (i : Nat) : List Int := (xs.drop (n * i)).take n
theorem chunk_len (n : Nat) (xs : List Int) (i : Nat) : (chunk n xs i).length = min n (xs.length - n * i) := by simp [chunk]
theorem chunk_is (n : Nat) (xs : List Int) (i : Nat) : (xs.drop (n * i)).take (n * i + (chunk n xs i).length - n * i) = chunk n xs i := by
  rw [Nat.add_sub_cancel_left, chunk_len, chunk]
  apply List.take_eq_take_iff.2
  simp
theorem chunk_in {n : Nat} {xs : List Int} {k : IntKind} (h : In k xs) (i : Nat) : In k (chunk n xs i) := (h.drop _).take _
/-! ### What the tag is -/
/-- The prime 2^130 - 5. -/
def Q : Int := 1361129467683753853853498429727072845819
/-! ### Limbs -/
def vP (xs : List Int) : Int := xs.foldr (fun x v => x + 67108864 * v) 0
abbrev L5 (b : Int) (xs : List Int) : Prop := F.Lim b xs
/-- Five limbs, a little above 26 bits at most; v is what they are by the prime. -/
structure PE (xs : List Int) (v : Int) : Prop where
  lim : L5 67117056 xs
  vl : vP xs % Q = v
def limbs (X : Int) : List Int := [X % 67108864, X / 67108864 % 67108864, X / 67108864 / 67108864 % 67108864, X / 67108864 / 67108864 / 67108864 % 67108864, X / 67108864 / 67108864 / 67108864 / 67108864 % 67108864]
/-! ### Sums -/
/-! ### Carrying -/
/-! ### Products -/
/-! ### Reducing -/
/-- All limbs below 2^26, the number below the prime. -/
structure PR (xs : List Int) (v : Int) : Prop where
  lim : L5 67108864 xs
  vl : vP xs = v
  hi : v < Q
structure Tight (xs : List Int) : Prop where
  len : xs.length = 5
  b0 : 0 ≤ xs.getD 0 0 ∧ xs.getD 0 0 < 67108864
  b1 : 0 ≤ xs.getD 1 0 ∧ xs.getD 1 0 ≤ 67108864
  b2 : 0 ≤ xs.getD 2 0 ∧ xs.getD 2 0 < 67108864
  b3 : 0 ≤ xs.getD 3 0 ∧ xs.getD 3 0 < 67108864
  b4 : 0 ≤ xs.getD 4 0 ∧ xs.getD 4 0 < 67108864
/-! ### The tag's bytes -/
/-! ### The key's first half -/
end Go.Proofs.YtjhinpmnpdgadaaDoor.SL.Y
