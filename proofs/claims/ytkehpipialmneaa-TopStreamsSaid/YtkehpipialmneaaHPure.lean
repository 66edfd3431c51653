/- The digest: plain laws. -/
import Derived.Test.YtkehpipialmneaaCPure
import Derived.Test.YtkehpipialmneaaSLw
namespace Go.Proofs.Ytkehpipialmneaa.SL.H
set_option linter.unusedVariables false
set_option linter.unusedSimpArgs false
open Go Go.Proofs.Ytkehpipialmneaa.SL Go.Proofs.Ytkehpipialmneaa.SL.W Go.Proofs.Ytkehpipialmneaa.SL.C

theorem or_comm (k : IntKind) (a b : Int) : bits2 .or k a b = bits2 .or k b a := by simp only [bits2]; rw [BitVec.or_comm]
theorem and31n (k : Int) (h : -32 < k ∧ k < 0) : bits2 .and .u64 (IntKind.wrap .u64 k) 31 = k + 32 := by
  have key : ∀ n : Fin 31, bits2 .and .u64 (IntKind.wrap .u64 (-((n.val : Int) + 1))) 31 = -((n.val : Int) + 1) + 32 := by decide +kernel
  have := key ⟨(-k - 1).toNat, by omega⟩
  simp only at this
  rwa [show -(((-k - 1).toNat : Int) + 1) = k by omega] at this
def kwb (xs : List Int) (n : Nat) : List Int := (List.range n).map fun i => beN (xs.drop (4 * i)) 4
def x3 (a b c : Int) : Int := bits2 .xor .u32 (bits2 .xor .u32 a b) c
def sg0 (x : Int) : Int := x3 (rotl x 25) (rotl x 14) (x / 2 ^ 3)
def sg1 (x : Int) : Int := x3 (rotl x 15) (rotl x 13) (x / 2 ^ 10)
def big0 (x : Int) : Int := x3 (rotl x 30) (rotl x 19) (rotl x 10)
def big1 (x : Int) : Int := x3 (rotl x 26) (rotl x 21) (rotl x 7)
def sch (b : List Int) : Nat → List Int
  | 0 => kwb b 16
  | n + 1 => sch b n ++ [add32 (add32 (add32 ((sch b n).getD n 0) (sg0 ((sch b n).getD (n + 1) 0))) ((sch b n).getD (n + 9) 0)) (sg1 ((sch b n).getD (n + 14) 0))]
def ks : List Int := [0x428a2f98, 0x71374491, 0xb5c0fbcf, 0xe9b5dba5, 0x3956c25b, 0x59f111f1, 0x923f82a4, 0xab1c5ed5, 0xd807aa98, 0x12835b01, 0x243185be, 0x550c7dc3, 0x72be5d74, 0x80deb1fe, 0x9bdc06a7, 0xc19bf174, 0xe49b69c1, 0xefbe4786, 0x0fc19dc6, 0x240ca1cc, 0x2de92c6f, 0x4a7484aa, 0x5cb0a9dc, 0x76f988da, 0x983e5152, 0xa831c66d, 0xb00327c8, 0xbf597fc7, 0xc6e00bf3, 0xd5a79147, 0x06ca6351, 0x14292967, 0x27b70a85, 0x2e1b2138, 0x4d2c6dfc, 0x53380d13, 0x650a7354, 0x766a0abb, 0x81c2c92e, 0x92722c85, 0xa2bfe8a1, 0xa81a664b, 0xc24b8b70, 0xc76c51a3, 0xd192e819, 0xd6990624, 0xf40e3585, 0x106aa070, 0x19a4c116, 0x1e376c08, 0x2748774c, 0x34b0bcb5, 0x391c0cb3, 0x4ed8aa4a, 0x5b9cca4f, 0x682e6ff3, 0x748f82ee, 0x78a5636f, 0x84c87814, 0x8cc70208, 0x90befffa, 0xa4506ceb, 0xbef9a3f7, 0xc67178f2]
def h0 : List Int := [0x6a09e667, 0xbb67ae85, 0x3c6ef372, 0xa54ff53a, 0x510e527f, 0x9b05688c, 0x1f83d9ab, 0x5be0cd19]
def tt (v : List Int) (k w : Int) : Int := add32 (add32 (add32 (add32 (v.getD 7 0) (big1 (v.getD 4 0))) (bits2 .xor .u32 (bits2 .and .u32 (v.getD 4 0) (v.getD 5 0)) (bits2 .and .u32 (bits2 .xor .u32 4294967295 (v.getD 4 0)) (v.getD 6 0)))) k) w
def uu (v : List Int) : Int := add32 (big0 (v.getD 0 0)) (x3 (bits2 .and .u32 (v.getD 0 0) (v.getD 1 0)) (bits2 .and .u32 (v.getD 0 0) (v.getD 2 0)) (bits2 .and .u32 (v.getD 1 0) (v.getD 2 0)))
def rstep (v : List Int) (k w : Int) : List Int := [add32 (tt v k w) (uu v), v.getD 0 0, v.getD 1 0, v.getD 2 0, add32 (v.getD 3 0) (tt v k w), v.getD 4 0, v.getD 5 0, v.getD 6 0]
def rnds (st w : List Int) : Nat → List Int
  | 0 => st
  | n + 1 => rstep (rnds st w n) (ks.getD n 0) (w.getD n 0)
def addl (s v : List Int) (n : Nat) : List Int := ((List.range n).map fun i => add32 (s.getD i 0) (v.getD i 0)) ++ s.drop n
def comp (st b : List Int) : List Int := addl st (rnds st (sch b 48) 64) 8
def sta (M : List Int) : Nat → List Int
  | 0 => h0
  | q + 1 => comp (sta M q) ((M.drop (64 * q)).take 64)
def padn (n : Nat) : Nat := (119 - n % 64) % 64
def padded (M : List Int) : List Int := M ++ [128] ++ List.replicate (padn M.length) 0 ++ (leB (8 * M.length) 8).reverse
def outB (s : List Int) : Nat → List Int
  | 0 => []
  | n + 1 => outB s n ++ (leB (s.getD n 0) 4).reverse
theorem outB_len (s : List Int) : ∀ n, (outB s n).length = 4 * n
  | 0 => rfl
  | n + 1 => by rw [outB, List.length_append, List.length_reverse, leB_len, outB_len s n]; omega
def digest (M : List Int) : List Int := outB (sta (padded M) ((padded M).length / 64)) 8
theorem digest_len (M : List Int) : (digest M).length = 32 := outB_len _ 8
structure Held (M st wait : List Int) (m : Int) : Prop where
  st : st = sta M (M.length / 64)
  many : m = ((M.length % 64 : Nat) : Int)
  wl : wait.length = 64
  wi : In .u8 wait
  tail : wait.take (M.length % 64) = M.drop (64 * (M.length / 64))
structure Hash (M st wait : List Int) (m n : Int) : Prop where
  held : Held M st wait m
  all : n = IntKind.wrap .u64 (M.length : Int)
theorem Hash.more {M bs st wt s2 w2 : List Int} {m n m2 : Int} (h : Hash M st wt m n) (h2 : Held (M ++ bs) s2 w2 m2) : Hash (M ++ bs) s2 w2 m2 (IntKind.wrap .u64 (n + bs.length)) := by
  refine ⟨h2, ?_⟩
  rw [h.all, List.length_append]
  simp [IntKind.wrap, IntKind.bits, IntKind.signed]
end Go.Proofs.Ytkehpipialmneaa.SL.H
