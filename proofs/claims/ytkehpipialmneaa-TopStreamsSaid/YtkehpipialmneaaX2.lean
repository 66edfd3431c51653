/- What these functions compute: a contract for each, walked through its code. -/
import Derived.Test.YtkehpipialmneaaSLzn
import Derived.Test.YtkehpipialmneaaBPure
import Derived.Test.YtkehpipialmneaaProg
import Derived.Test.YtkehpipialmneaaX1
namespace Go.Proofs.Ytkehpipialmneaa.X2
open Go Go.Proofs.Ytkehpipialmneaa.SL Go.Proofs.Ytkehpipialmneaa.SL.W Go.Proofs.Ytkehpipialmneaa.SL.C Go.Proofs.Ytkehpipialmneaa.SL.H Go.Proofs.Ytkehpipialmneaa.SL.M Go.Proofs.Ytkehpipialmneaa.SL.Y Go.Proofs.Ytkehpipialmneaa.SL.A Go.Proofs.Ytkehpipialmneaa.SL.B Go.Proofs.Ytkehpipialmneaa.X1
set_option linter.unusedVariables false
set_option linter.unusedSimpArgs false
set_option maxRecDepth 100000
set_option maxHeartbeats 40000000
def U : Tab where
  und := [(3, .int .i64), (53, .int .u32), (129, .int .u64)]
  fld := []
  sz := [(3, 1), (53, 1), (129, 1)]
  ti := [(3, (1, 8, .int .i64 0)), (53, (1, 4, .int .u32 0)), (129, (1, 8, .int .u64 0))]
  bld := []

theorem hU : U.OK Try.prog where
  und := by
    intro p hp
    simp only [U, List.mem_cons, List.not_mem_nil, or_false] at hp
    rcases hp with rfl | rfl | rfl
    · exact Try.underlying3
    · exact Try.underlying53
    · exact Try.underlying129
  fld := by
    intro p hp; cases hp
  sz := by
    intro p hp
    simp only [U, List.mem_cons, List.not_mem_nil, or_false] at hp
    rcases hp with rfl | rfl | rfl
    · exact ⟨Try.prog.types[3]!, by kernel_rfl, by kernel_rfl⟩
    · exact ⟨Try.prog.types[53]!, by kernel_rfl, by kernel_rfl⟩
    · exact ⟨Try.prog.types[129]!, by kernel_rfl, by kernel_rfl⟩
  ti := by
    intro p hp
    simp only [U, List.mem_cons, List.not_mem_nil, or_false] at hp
    rcases hp with rfl | rfl | rfl
    · exact ⟨Try.prog.types[3]!, by kernel_rfl, by kernel_rfl, by kernel_rfl, by kernel_rfl⟩
    · exact ⟨Try.prog.types[53]!, by kernel_rfl, by kernel_rfl, by kernel_rfl, by kernel_rfl⟩
    · exact ⟨Try.prog.types[129]!, by kernel_rfl, by kernel_rfl, by kernel_rfl, by kernel_rfl⟩
  bld := by
    intro p hp; cases hp
  mixed := by kernel_rfl

theorem h_rot_spec (x : Int) (k : Int) (h0 : -32 < k) (h1 : k < 0) :
    CallsS Try.prog 96 [.int .u32 x, .int .i64 k] [] (fun r D => r = .int .u32 (rotl x (k + 32)) ∧ D = []) := by
  refine CallsS.enter hU Try.f96 _ [.tmp 4] 17 Try.func96 rfl (by decide) rfl rfl (by kernel_rfl) fun w0 W => ?_
  refine RunC.sr ?_
  refine RunR.sl hU [] 1 1 [0, 1, 4] [(0, .int .u32 x), (1, .int .i64 k), (4, .int .u32 0)] 1 ?_
  refine RunR.nx ?_
  have hm1 := and_le .u64 rfl (IntKind.wrap .u64 k) 31 (by decide) (by decide)
  refine RunR.sl hU [] 4 4 [0, 4, 5] [(0, .int .u32 x), (4, .int .u32 0), (5, .int .u64 (bits2 .and .u64 (IntKind.wrap .u64 k) 31))] 4 ?_
  refine RunR.nx ?_
  have hm2 : 0 ≤ x → 0 ≤ x / 2 ^ (min (32 - (bits2 .and .u64 (IntKind.wrap .u64 k) 31)).toNat 32) ∧ x / 2 ^ (min (32 - (bits2 .and .u64 (IntKind.wrap .u64 k) 31)).toNat 32) ≤ x := fun h => ⟨Int.ediv_nonneg h (Int.le_of_lt (Int.pow_pos (by decide))), Int.ediv_le_self _ h⟩
  refine RunR.sil hU [5, 6] 9 9 [4] [(4, .int .u32 (bits2 .or .u32 (IntKind.wrap .u32 (x * 2 ^ (min (bits2 .and .u64 (IntKind.wrap .u64 k) 31).toNat 32))) (x / 2 ^ (min (32 - (bits2 .and .u64 (IntKind.wrap .u64 k) 31)).toNat 32))))] ((True) ∧ (True) ∧ (0 ≤ (bits2 .and .u64 (IntKind.wrap .u64 k) 31)) ∧ (True) ∧ (True) ∧ (0 ≤ (32 - (bits2 .and .u64 (IntKind.wrap .u64 k) 31)) ∧ (32 - (bits2 .and .u64 (IntKind.wrap .u64 k) 31)) < 18446744073709551616) ∧ (0 ≤ (32 - (bits2 .and .u64 (IntKind.wrap .u64 k) 31))) ∧ (True) ∧ (True) ∧ True) rfl (by kernel_rfl) ⟨trivial, trivial, (by omega), trivial, trivial, (by omega), (by omega), trivial, trivial, trivial⟩ ?_
  refine RunR.nn ?_
  refine RunC.ret ?_
  refine kret_r [.int .u32 (bits2 .or .u32 (IntKind.wrap .u32 (x * 2 ^ (min (bits2 .and .u64 (IntKind.wrap .u64 k) 31).toNat 32))) (x / 2 ^ (min (32 - (bits2 .and .u64 (IntKind.wrap .u64 k) 31)).toNat 32)))] [] [] ⟨rfl, trivial⟩ (by kernel_rfl) rfl ⟨(by first | rfl | (simp only [and31n k ⟨h0, h1⟩]; rfl)), (by first | rfl | (simp only [and31n k ⟨h0, h1⟩]; rfl))⟩

theorem c_rot_spec (x : Int) (k : Int) (h0 : 0 ≤ k) (h1 : k < 32) :
    CallsS Try.prog 96 [.int .u32 x, .int .i64 k] [] (fun r D => r = .int .u32 (rotl x k) ∧ D = []) := by
  refine CallsS.enter hU Try.f96 _ [.tmp 4] 17 Try.func96 rfl (by decide) rfl rfl (by kernel_rfl) fun w0 W => ?_
  refine RunC.sr ?_
  refine RunR.sl hU [] 1 1 [0, 1, 4] [(0, .int .u32 x), (1, .int .i64 k), (4, .int .u32 0)] 1 ?_
  refine RunR.nx ?_
  have hm1 := and_le .u64 rfl k 31 (by decide) (by decide)
  refine RunR.sil hU [1] 4 4 [0, 4, 5] [(0, .int .u32 x), (4, .int .u32 0), (5, .int .u64 (bits2 .and .u64 k 31))] ((True) ∧ (0 ≤ k ∧ k < 18446744073709551616) ∧ (True) ∧ (True) ∧ True) rfl (by kernel_rfl) ⟨trivial, (by omega), trivial, trivial, trivial⟩ ?_
  refine RunR.nx ?_
  have hm2 : 0 ≤ x → 0 ≤ x / 2 ^ (min (32 - (bits2 .and .u64 k 31)).toNat 32) ∧ x / 2 ^ (min (32 - (bits2 .and .u64 k 31)).toNat 32) ≤ x := fun h => ⟨Int.ediv_nonneg h (Int.le_of_lt (Int.pow_pos (by decide))), Int.ediv_le_self _ h⟩
  refine RunR.sil hU [5, 6] 9 9 [4] [(4, .int .u32 (bits2 .or .u32 (IntKind.wrap .u32 (x * 2 ^ (min (bits2 .and .u64 k 31).toNat 32))) (x / 2 ^ (min (32 - (bits2 .and .u64 k 31)).toNat 32))))] ((True) ∧ (True) ∧ (0 ≤ (bits2 .and .u64 k 31)) ∧ (True) ∧ (True) ∧ (0 ≤ (32 - (bits2 .and .u64 k 31)) ∧ (32 - (bits2 .and .u64 k 31)) < 18446744073709551616) ∧ (0 ≤ (32 - (bits2 .and .u64 k 31))) ∧ (True) ∧ (True) ∧ True) rfl (by kernel_rfl) ⟨trivial, trivial, (by omega), trivial, trivial, (by omega), (by omega), trivial, trivial, trivial⟩ ?_
  refine RunR.nn ?_
  refine RunC.ret ?_
  refine kret_r [.int .u32 (bits2 .or .u32 (IntKind.wrap .u32 (x * 2 ^ (min (bits2 .and .u64 k 31).toNat 32))) (x / 2 ^ (min (32 - (bits2 .and .u64 k 31)).toNat 32)))] [] [] ⟨rfl, trivial⟩ (by kernel_rfl) rfl ⟨(by first | rfl | (simp only [and31 k ⟨h0, h1⟩]; rfl)), (by first | rfl | (simp only [and31 k ⟨h0, h1⟩]; rfl))⟩
end Go.Proofs.Ytkehpipialmneaa.X2
