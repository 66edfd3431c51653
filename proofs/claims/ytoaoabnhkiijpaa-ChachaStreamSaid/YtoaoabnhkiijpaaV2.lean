/- What these functions compute: a contract for each, walked through its code. -/
import Derived.Test.YtoaoabnhkiijpaaCPure
import Derived.Test.YtoaoabnhkiijpaaProg
import Derived.Test.YtoaoabnhkiijpaaV1
namespace Go.Proofs.Ytoaoabnhkiijpaa.V2
open Go Go.Proofs.Ytoaoabnhkiijpaa.SL Go.Proofs.Ytoaoabnhkiijpaa.SL.W Go.Proofs.Ytoaoabnhkiijpaa.SL.C Go.Proofs.Ytoaoabnhkiijpaa.V1
set_option linter.unusedVariables false
set_option linter.unusedSimpArgs false
set_option maxRecDepth 100000
set_option maxHeartbeats 40000000
def U : Tab where
  und := [(3, .int .i64), (5, .int .u8), (22, .slice 5), (23, .int .u32), (73, .array 4 3), (86, .array 16 23), (87, .array 16 23), (89, .array 8 73), (93, .int .u64)]
  fld := []
  sz := [(3, 1), (5, 1), (22, 1), (23, 1), (73, 4), (86, 16), (87, 16), (89, 32), (93, 1)]
  ti := [(3, (1, 8, .int .i64 0)), (5, (1, 1, .int .u8 0)), (22, (1, 24, .slice none 0 0)), (23, (1, 4, .int .u32 0)), (73, (4, 32, .agg #[.int .i64 0, .int .i64 0, .int .i64 0, .int .i64 0])), (86, (16, 64, .agg #[.int .u32 0, .int .u32 0, .int .u32 0, .int .u32 0, .int .u32 0, .int .u32 0, .int .u32 0, .int .u32 0, .int .u32 0, .int .u32 0, .int .u32 0, .int .u32 0, .int .u32 0, .int .u32 0, .int .u32 0, .int .u32 0])), (87, (16, 64, .agg #[.int .u32 0, .int .u32 0, .int .u32 0, .int .u32 0, .int .u32 0, .int .u32 0, .int .u32 0, .int .u32 0, .int .u32 0, .int .u32 0, .int .u32 0, .int .u32 0, .int .u32 0, .int .u32 0, .int .u32 0, .int .u32 0])), (89, (32, 256, .agg #[.int .i64 0, .int .i64 0, .int .i64 0, .int .i64 0, .int .i64 0, .int .i64 0, .int .i64 0, .int .i64 0, .int .i64 0, .int .i64 0, .int .i64 0, .int .i64 0, .int .i64 0, .int .i64 0, .int .i64 0, .int .i64 0, .int .i64 0, .int .i64 0, .int .i64 0, .int .i64 0, .int .i64 0, .int .i64 0, .int .i64 0, .int .i64 0, .int .i64 0, .int .i64 0, .int .i64 0, .int .i64 0, .int .i64 0, .int .i64 0, .int .i64 0, .int .i64 0])), (93, (1, 8, .int .u64 0))]
  bld := []

theorem hU : U.OK Try.prog where
  und := by
    intro p hp
    simp only [U, List.mem_cons, List.not_mem_nil, or_false] at hp
    rcases hp with rfl | rfl | rfl | rfl | rfl | rfl | rfl | rfl | rfl
    · exact Try.underlying3
    · exact Try.underlying5
    · exact Try.underlying22
    · exact Try.underlying23
    · exact Try.underlying73
    · exact Try.underlying86
    · exact Try.underlying87
    · exact Try.underlying89
    · exact Try.underlying93
  fld := by
    intro p hp; cases hp
  sz := by
    intro p hp
    simp only [U, List.mem_cons, List.not_mem_nil, or_false] at hp
    rcases hp with rfl | rfl | rfl | rfl | rfl | rfl | rfl | rfl | rfl
    · exact ⟨Try.prog.types[3]!, by kernel_rfl, by kernel_rfl⟩
    · exact ⟨Try.prog.types[5]!, by kernel_rfl, by kernel_rfl⟩
    · exact ⟨Try.prog.types[22]!, by kernel_rfl, by kernel_rfl⟩
    · exact ⟨Try.prog.types[23]!, by kernel_rfl, by kernel_rfl⟩
    · exact ⟨Try.prog.types[73]!, by kernel_rfl, by kernel_rfl⟩
    · exact ⟨Try.prog.types[86]!, by kernel_rfl, by kernel_rfl⟩
    · exact ⟨Try.prog.types[87]!, by kernel_rfl, by kernel_rfl⟩
    · exact ⟨Try.prog.types[89]!, by kernel_rfl, by kernel_rfl⟩
    · exact ⟨Try.prog.types[93]!, by kernel_rfl, by kernel_rfl⟩
  ti := by
    intro p hp
    simp only [U, List.mem_cons, List.not_mem_nil, or_false] at hp
    rcases hp with rfl | rfl | rfl | rfl | rfl | rfl | rfl | rfl | rfl
    · exact ⟨Try.prog.types[3]!, by kernel_rfl, by kernel_rfl, by kernel_rfl, by kernel_rfl⟩
    · exact ⟨Try.prog.types[5]!, by kernel_rfl, by kernel_rfl, by kernel_rfl, by kernel_rfl⟩
    · exact ⟨Try.prog.types[22]!, by kernel_rfl, by kernel_rfl, by kernel_rfl, by kernel_rfl⟩
    · exact ⟨Try.prog.types[23]!, by kernel_rfl, by kernel_rfl, by kernel_rfl, by kernel_rfl⟩
    · exact ⟨Try.prog.types[73]!, by kernel_rfl, by kernel_rfl, by kernel_rfl, by kernel_rfl⟩
    · exact ⟨Try.prog.types[86]!, by kernel_rfl, by kernel_rfl, by kernel_rfl, by kernel_rfl⟩
    · exact ⟨Try.prog.types[87]!, by kernel_rfl, by kernel_rfl, by kernel_rfl, by kernel_rfl⟩
    · exact ⟨Try.prog.types[89]!, by kernel_rfl, by kernel_rfl, by kernel_rfl, by kernel_rfl⟩
    · exact ⟨Try.prog.types[93]!, by kernel_rfl, by kernel_rfl, by kernel_rfl, by kernel_rfl⟩
  bld := by
    intro p hp; cases hp
  mixed := by kernel_rfl

theorem c_rot_spec (x : Int) (k : Int) (h0 : 0 ≤ k) (h1 : k < 32) :
    CallsS Try.prog 64 [.int .u32 x, .int .i64 k] [] (fun r D => r = .int .u32 (rotl x k) ∧ D = []) := by
  refine CallsS.enter hU Try.f64 _ [.tmp 4] 17 Try.func64 rfl (by decide) rfl rfl (by kernel_rfl) fun w0 W => ?_
  refine RunC.seq ?_
  refine RunC.region ?_
  refine RunR.sil hU [] 1 1 [0, 1, 4] [(0, .int .u32 x), (1, .int .i64 k), (4, .int .u32 0)] ((True) ∧ True) rfl (by kernel_rfl) ⟨trivial, trivial⟩ ?_
  refine RunR.done (by kernel_rfl) ?_
  refine kseq_n ?_
  refine RunC.seq ?_
  refine RunC.region ?_
  have hm1 := and_le .u64 rfl k 31 (by decide) (by decide)
  refine RunR.sil hU [1] 4 4 [0, 4, 5] [(0, .int .u32 x), (4, .int .u32 0), (5, .int .u64 (bits2 .and .u64 k 31))] ((True) ∧ (0 ≤ k ∧ k < 18446744073709551616) ∧ (True) ∧ (True) ∧ True) rfl (by kernel_rfl) ⟨trivial, (by omega), trivial, trivial, trivial⟩ ?_
  refine RunR.done (by kernel_rfl) ?_
  refine kseq_n ?_
  refine RunC.seq ?_
  refine RunC.region ?_
  refine RunR.sil hU [5, 6] 9 9 [4] [(4, .int .u32 (bits2 .or .u32 (IntKind.wrap .u32 (x * 2 ^ (min (bits2 .and .u64 k 31).toNat 32))) (x / 2 ^ (min (32 - (bits2 .and .u64 k 31)).toNat 32))))] ((True) ∧ (True) ∧ (0 ≤ (bits2 .and .u64 k 31)) ∧ (True) ∧ (True) ∧ (0 ≤ (32 - (bits2 .and .u64 k 31)) ∧ (32 - (bits2 .and .u64 k 31)) < 18446744073709551616) ∧ (0 ≤ (32 - (bits2 .and .u64 k 31))) ∧ (True) ∧ (True) ∧ True) rfl (by kernel_rfl) ⟨trivial, trivial, (by omega), trivial, trivial, (by omega), (by omega), trivial, trivial, trivial⟩ ?_
  refine RunR.done (by kernel_rfl) ?_
  refine kseq_n ?_
  refine RunC.ret ?_
  refine kret_r [.int .u32 (bits2 .or .u32 (IntKind.wrap .u32 (x * 2 ^ (min (bits2 .and .u64 k 31).toNat 32))) (x / 2 ^ (min (32 - (bits2 .and .u64 k 31)).toNat 32)))] [] [] ⟨rfl, trivial⟩ (by kernel_rfl) rfl ⟨(by first | rfl | (simp only [and31 k ⟨h0, h1⟩]; rfl)), (by first | rfl | (simp only [and31 k ⟨h0, h1⟩]; rfl))⟩

theorem cr_rol_spec (x : Int) (k : Int) (h0 : 0 ≤ k) (h1 : k < 32) :
    CallsS Try.prog 60 [.int .u32 x, .int .i64 k] [] (fun r D => r = .int .u32 (rotl x k) ∧ D = []) := by
  refine CallsS.enter hU Try.f60 _ [.tmp 4] 15 Try.func60 rfl (by decide) rfl rfl (by kernel_rfl) fun w0 W => ?_
  refine RunC.seq ?_
  refine RunC.region ?_
  refine RunR.sil hU [] 1 1 [0, 1, 4] [(0, .int .u32 x), (1, .int .i64 k), (4, .int .u32 0)] ((True) ∧ True) rfl (by kernel_rfl) ⟨trivial, trivial⟩ ?_
  refine RunR.done (by kernel_rfl) ?_
  refine kseq_n ?_
  refine RunC.seq ?_
  refine RunC.region ?_
  refine RunR.sil hU [2, 6, 7, 8] 11 11 [4] [(4, .int .u32 (bits2 .or .u32 (IntKind.wrap .u32 (x * 2 ^ (min (k).toNat 32))) (x / 2 ^ (min (32 - k).toNat 32))))] ((True) ∧ (True) ∧ (0 ≤ k ∧ k < 18446744073709551616) ∧ (0 ≤ k) ∧ (True) ∧ (True) ∧ (-9223372036854775808 ≤ (32 - k) ∧ (32 - k) < 9223372036854775808) ∧ (0 ≤ (32 - k) ∧ (32 - k) < 18446744073709551616) ∧ (0 ≤ (32 - k)) ∧ (True) ∧ (True) ∧ True) rfl (by kernel_rfl) ⟨trivial, trivial, (by omega), (by omega), trivial, trivial, (by omega), (by omega), (by omega), trivial, trivial, trivial⟩ ?_
  refine RunR.done (by kernel_rfl) ?_
  refine kseq_n ?_
  refine RunC.ret ?_
  refine kret_r [.int .u32 (bits2 .or .u32 (IntKind.wrap .u32 (x * 2 ^ (min (k).toNat 32))) (x / 2 ^ (min (32 - k).toNat 32)))] [] [] ⟨rfl, trivial⟩ (by kernel_rfl) rfl ⟨rfl, rfl⟩

theorem c_half_spec (p : Nat) (xs : List Int) (a : Int) (b : Int) (d : Int) (k : Int) (hl : xs.length = 16) (ha : 0 ≤ a ∧ a < 16) (hb : 0 ≤ b ∧ b < 16) (hd : 0 ≤ d ∧ d < 16) (hk : 0 ≤ k ∧ k < 32) :
    CallsS Try.prog 74 [.pointer (some ⟨p, 0, none⟩), .int .i64 a, .int .i64 b, .int .i64 d, .int .i64 k] [blk p 87 (nums .u32 xs)] (fun r D => ∃ (zs : List Int), r = .tuple #[] ∧ D = [blk p 87 (nums .u32 zs)] ∧ (zs = half xs a b d k) ∧ (zs.length = 16)) := by
  refine CallsS.enter hU Try.f74 _ [] 40 Try.func74 rfl (by decide) rfl rfl (by kernel_rfl) fun w0 W => ?_
  refine RunC.seq ?_
  refine RunC.regionU hU 14 [blk p 87 (nums .u32 xs)] [0] [12, 13] #[false, false, false, false, false, false, false, false, false, false, false, false, false, false] (by kernel_rfl) (by kernel_rfl) (by kernel_rfl) ?_
  refine RunU.sil hU false 0 #[true, false, false, false, false, false, false, false, false, false, false, false, false, false] 10 (.pointer (some ⟨p, 0, none⟩)) (True) (by kernel_rfl) trivial (by kernel_rfl) (by kernel_rfl) (fun _ _ _ h => h) ?_
  refine RunU.sil hU false 1 #[true, true, false, false, false, false, false, false, false, false, false, false, false, false] 11 (.int .i64 a) (True) (by kernel_rfl) trivial (by kernel_rfl) (by kernel_rfl) (fun _ _ _ h => h) ?_
  refine RunU.sil hU false 2 #[true, true, true, false, false, false, false, false, false, false, false, false, false, false] 12 (.pointer (some ⟨p, 0, none⟩)) (True) (by kernel_rfl) trivial (by kernel_rfl) (by kernel_rfl) (fun _ _ _ h => h) ?_
  refine RunU.sil hU false 3 #[true, true, true, true, false, false, false, false, false, false, false, false, false, false] 13 (.pointer (some ⟨p, 0 + (a).toNat * 1, none⟩)) (0 ≤ a ∧ a < ((16 : Nat) : Int)) (by kernel_rfl) (by omega) (by kernel_rfl) (by kernel_rfl) (fun _ _ _ h => h) ?_
  refine RunU.read 4 #[true, true, true, true, true, false, false, false, false, false, false, false, false, false] 14 (.load 23 (.tmp 13)) (.int .u32 (xs.getD ((a).toNat) 0)) [0] (by kernel_rfl) (Reads.load_blknum hU 0 p (0 + (a).toNat * 1) 87 ((a).toNat) .u32 xs rfl (by kernel_rfl) (by kernel_rfl) (by omega) (by omega)) (by kernel_rfl) (by kernel_rfl) (by kernel_rfl) (by kernel_rfl) (fun _ _ _ h => h) ?_
  refine RunU.sil hU false 5 #[true, true, true, true, true, true, false, false, false, false, false, false, false, false] 15 (.pointer (some ⟨p, 0, none⟩)) (True) (by kernel_rfl) trivial (by kernel_rfl) (by kernel_rfl) (fun _ _ _ h => h) ?_
  refine RunU.sil hU false 6 #[true, true, true, true, true, true, true, false, false, false, false, false, false, false] 16 (.int .i64 b) (True) (by kernel_rfl) trivial (by kernel_rfl) (by kernel_rfl) (fun _ _ _ h => h) ?_
  refine RunU.sil hU false 7 #[true, true, true, true, true, true, true, true, false, false, false, false, false, false] 17 (.pointer (some ⟨p, 0, none⟩)) (True) (by kernel_rfl) trivial (by kernel_rfl) (by kernel_rfl) (fun _ _ _ h => h) ?_
  refine RunU.sil hU false 8 #[true, true, true, true, true, true, true, true, true, false, false, false, false, false] 18 (.pointer (some ⟨p, 0 + (b).toNat * 1, none⟩)) (0 ≤ b ∧ b < ((16 : Nat) : Int)) (by kernel_rfl) (by omega) (by kernel_rfl) (by kernel_rfl) (fun _ _ _ h => h) ?_
  refine RunU.read 9 #[true, true, true, true, true, true, true, true, true, true, false, false, false, false] 19 (.load 23 (.tmp 18)) (.int .u32 (xs.getD ((b).toNat) 0)) [0] (by kernel_rfl) (Reads.load_blknum hU 0 p (0 + (b).toNat * 1) 87 ((b).toNat) .u32 xs rfl (by kernel_rfl) (by kernel_rfl) (by omega) (by omega)) (by kernel_rfl) (by kernel_rfl) (by kernel_rfl) (by kernel_rfl) (fun _ _ _ h => h) ?_
  refine RunU.sil hU false 10 #[true, true, true, true, true, true, true, true, true, true, true, false, false, false] 20 (.int .u32 (IntKind.wrap .u32 ((xs.getD ((a).toNat) 0) + (xs.getD ((b).toNat) 0)))) (True) (by kernel_rfl) trivial (by kernel_rfl) (by kernel_rfl) (fun _ _ _ h => h) ?_
  refine RunU.sil hU false 11 #[true, true, true, true, true, true, true, true, true, true, true, true, false, false] 21 (.pointer (some ⟨p, 0, none⟩)) (True) (by kernel_rfl) trivial (by kernel_rfl) (by kernel_rfl) (fun _ _ _ h => h) ?_
  refine RunU.sil hU false 12 #[true, true, true, true, true, true, true, true, true, true, true, true, true, false] 22 (.pointer (some ⟨p, 0 + (a).toNat * 1, none⟩)) (0 ≤ a ∧ a < ((16 : Nat) : Int)) (by kernel_rfl) (by omega) (by kernel_rfl) (by kernel_rfl) (fun _ _ _ h => h) ?_
  refine RunU.one (dst := none) (op := .store 23 (.tmp 22) (.tmp 20)) 13 #[true, true, true, true, true, true, true, true, true, true, true, true, true, true] [] (by kernel_rfl) (by kernel_rfl) (Step.store_blknum hU 0 p (0 + (a).toNat * 1) 87 ((a).toNat) .u32 xs (IntKind.wrap .u32 ((xs.getD ((a).toNat) 0) + (xs.getD ((b).toNat) 0))) (by kernel_rfl) (by kernel_rfl) (by kernel_rfl) rfl (by omega) (by omega) ?_)
  have hl1 : (xs.set ((a).toNat) (IntKind.wrap .u32 ((xs.getD ((a).toNat) 0) + (xs.getD ((b).toNat) 0)))).length = xs.length := List.length_set
  refine ⟨.inr (by kernel_rfl), ?_⟩
  refine RunU.env [0, 1, 3, 4] [(0, .pointer (some ⟨p, 0, none⟩)), (1, .int .i64 a), (3, .int .i64 d), (4, .int .i64 k)] (by kernel_rfl) ?_
  refine RunU.done (by kernel_rfl) ?_
  refine kseq_n ?_
  refine RunC.regionU hU 18 [blk p 87 (nums .u32 (xs.set ((a).toNat) (IntKind.wrap .u32 ((xs.getD ((a).toNat) 0) + (xs.getD ((b).toNat) 0)))))] [0] [16, 17] #[false, false, false, false, false, false, false, false, false, false, false, false, false, false, false, false, false, false] (by kernel_rfl) (by kernel_rfl) (by kernel_rfl) ?_
  refine RunU.sil hU false 0 #[true, false, false, false, false, false, false, false, false, false, false, false, false, false, false, false, false, false] 23 (.pointer (some ⟨p, 0, none⟩)) (True) (by kernel_rfl) trivial (by kernel_rfl) (by kernel_rfl) (fun _ _ _ h => h) ?_
  refine RunU.sil hU false 1 #[true, true, false, false, false, false, false, false, false, false, false, false, false, false, false, false, false, false] 24 (.int .i64 d) (True) (by kernel_rfl) trivial (by kernel_rfl) (by kernel_rfl) (fun _ _ _ h => h) ?_
  refine RunU.sil hU false 2 #[true, true, true, false, false, false, false, false, false, false, false, false, false, false, false, false, false, false] 25 (.pointer (some ⟨p, 0, none⟩)) (True) (by kernel_rfl) trivial (by kernel_rfl) (by kernel_rfl) (fun _ _ _ h => h) ?_
  refine RunU.sil hU false 3 #[true, true, true, true, false, false, false, false, false, false, false, false, false, false, false, false, false, false] 26 (.int .i64 d) (True) (by kernel_rfl) trivial (by kernel_rfl) (by kernel_rfl) (fun _ _ _ h => h) ?_
  refine RunU.sil hU false 4 #[true, true, true, true, true, false, false, false, false, false, false, false, false, false, false, false, false, false] 27 (.pointer (some ⟨p, 0, none⟩)) (True) (by kernel_rfl) trivial (by kernel_rfl) (by kernel_rfl) (fun _ _ _ h => h) ?_
  refine RunU.sil hU false 5 #[true, true, true, true, true, true, false, false, false, false, false, false, false, false, false, false, false, false] 28 (.pointer (some ⟨p, 0 + (d).toNat * 1, none⟩)) (0 ≤ d ∧ d < ((16 : Nat) : Int)) (by kernel_rfl) (by omega) (by kernel_rfl) (by kernel_rfl) (fun _ _ _ h => h) ?_
  refine RunU.read 6 #[true, true, true, true, true, true, true, false, false, false, false, false, false, false, false, false, false, false] 29 (.load 23 (.tmp 28)) (.int .u32 ((xs.set ((a).toNat) (IntKind.wrap .u32 ((xs.getD ((a).toNat) 0) + (xs.getD ((b).toNat) 0)))).getD ((d).toNat) 0)) [0] (by kernel_rfl) (Reads.load_blknum hU 0 p (0 + (d).toNat * 1) 87 ((d).toNat) .u32 (xs.set ((a).toNat) (IntKind.wrap .u32 ((xs.getD ((a).toNat) 0) + (xs.getD ((b).toNat) 0)))) rfl (by kernel_rfl) (by kernel_rfl) (by omega) (by omega)) (by kernel_rfl) (by kernel_rfl) (by kernel_rfl) (by kernel_rfl) (fun _ _ _ h => h) ?_
  refine RunU.sil hU false 7 #[true, true, true, true, true, true, true, true, false, false, false, false, false, false, false, false, false, false] 30 (.pointer (some ⟨p, 0, none⟩)) (True) (by kernel_rfl) trivial (by kernel_rfl) (by kernel_rfl) (fun _ _ _ h => h) ?_
  refine RunU.sil hU false 8 #[true, true, true, true, true, true, true, true, true, false, false, false, false, false, false, false, false, false] 31 (.int .i64 a) (True) (by kernel_rfl) trivial (by kernel_rfl) (by kernel_rfl) (fun _ _ _ h => h) ?_
  refine RunU.sil hU false 9 #[true, true, true, true, true, true, true, true, true, true, false, false, false, false, false, false, false, false] 32 (.pointer (some ⟨p, 0, none⟩)) (True) (by kernel_rfl) trivial (by kernel_rfl) (by kernel_rfl) (fun _ _ _ h => h) ?_
  refine RunU.sil hU false 10 #[true, true, true, true, true, true, true, true, true, true, true, false, false, false, false, false, false, false] 33 (.pointer (some ⟨p, 0 + (a).toNat * 1, none⟩)) (0 ≤ a ∧ a < ((16 : Nat) : Int)) (by kernel_rfl) (by omega) (by kernel_rfl) (by kernel_rfl) (fun _ _ _ h => h) ?_
  refine RunU.read 11 #[true, true, true, true, true, true, true, true, true, true, true, true, false, false, false, false, false, false] 34 (.load 23 (.tmp 33)) (.int .u32 ((xs.set ((a).toNat) (IntKind.wrap .u32 ((xs.getD ((a).toNat) 0) + (xs.getD ((b).toNat) 0)))).getD ((a).toNat) 0)) [0] (by kernel_rfl) (Reads.load_blknum hU 0 p (0 + (a).toNat * 1) 87 ((a).toNat) .u32 (xs.set ((a).toNat) (IntKind.wrap .u32 ((xs.getD ((a).toNat) 0) + (xs.getD ((b).toNat) 0)))) rfl (by kernel_rfl) (by kernel_rfl) (by omega) (by omega)) (by kernel_rfl) (by kernel_rfl) (by kernel_rfl) (by kernel_rfl) (fun _ _ _ h => h) ?_
  refine RunU.sil hU false 12 #[true, true, true, true, true, true, true, true, true, true, true, true, true, false, false, false, false, false] 35 (.int .u32 (bits2 .xor .u32 ((xs.set ((a).toNat) (IntKind.wrap .u32 ((xs.getD ((a).toNat) 0) + (xs.getD ((b).toNat) 0)))).getD ((d).toNat) 0) ((xs.set ((a).toNat) (IntKind.wrap .u32 ((xs.getD ((a).toNat) 0) + (xs.getD ((b).toNat) 0)))).getD ((a).toNat) 0))) (True) (by kernel_rfl) trivial (by kernel_rfl) (by kernel_rfl) (fun _ _ _ h => h) ?_
  refine RunU.sil hU false 13 #[true, true, true, true, true, true, true, true, true, true, true, true, true, true, false, false, false, false] 36 (.int .i64 k) (True) (by kernel_rfl) trivial (by kernel_rfl) (by kernel_rfl) (fun _ _ _ h => h) ?_
  refine RunU.sil hU false 15 #[true, true, true, true, true, true, true, true, true, true, true, true, true, true, false, true, false, false] 38 (.pointer (some ⟨p, 0, none⟩)) (True) (by kernel_rfl) trivial (by kernel_rfl) (by kernel_rfl) (fun _ _ _ h => h) ?_
  refine RunU.one (dst := some 37) (op := .call { callee := .value (.func 64), args := #[.tmp 35, .tmp 36], argTypes := #[23, 3] }) 14 #[true, true, true, true, true, true, true, true, true, true, true, true, true, true, true, true, false, false] [0] (by kernel_rfl) (by kernel_rfl) (Step.call 64 [.int .u32 (bits2 .xor .u32 ((xs.set ((a).toNat) (IntKind.wrap .u32 ((xs.getD ((a).toNat) 0) + (xs.getD ((b).toNat) 0)))).getD ((d).toNat) 0) ((xs.set ((a).toNat) (IntKind.wrap .u32 ((xs.getD ((a).toNat) 0) + (xs.getD ((b).toNat) 0)))).getD ((a).toNat) 0)), .int .i64 k] (by kernel_rfl) (by kernel_rfl) [] [] [blk p 87 (nums .u32 (xs.set ((a).toNat) (IntKind.wrap .u32 ((xs.getD ((a).toNat) 0) + (xs.getD ((b).toNat) 0)))))] (c_rot_spec (bits2 .xor .u32 ((xs.set ((a).toNat) (IntKind.wrap .u32 ((xs.getD ((a).toNat) 0) + (xs.getD ((b).toNat) 0)))).getD ((d).toNat) 0) ((xs.set ((a).toNat) (IntKind.wrap .u32 ((xs.getD ((a).toNat) 0) + (xs.getD ((b).toNat) 0)))).getD ((a).toNat) 0)) k (by first | assumption | omega | (simp only [List.length_append, List.length_cons, List.length_nil, List.length_set, List.length_replicate, List.length_take, List.length_drop]; omega) | (simp only [fits] at *; omega) | (simp only [List.length_append, List.length_cons, List.length_nil, List.length_set, List.length_replicate, List.length_take, List.length_drop] at *; omega) | (simp; done) | decide) (by first | assumption | omega | (simp only [List.length_append, List.length_cons, List.length_nil, List.length_set, List.length_replicate, List.length_take, List.length_drop]; omega) | (simp only [fits] at *; omega) | (simp only [List.length_append, List.length_cons, List.length_nil, List.length_set, List.length_replicate, List.length_take, List.length_drop] at *; omega) | (simp; done) | decide)) [] (by kernel_rfl) (Lend.nil _) ?_)
  rintro _ _ ⟨rfl, rfl⟩
  refine ⟨.inl (by kernel_rfl), ?_⟩
  refine RunU.sil hU false 16 #[true, true, true, true, true, true, true, true, true, true, true, true, true, true, true, true, true, false] 39 (.pointer (some ⟨p, 0 + (d).toNat * 1, none⟩)) (0 ≤ d ∧ d < ((16 : Nat) : Int)) (by kernel_rfl) (by omega) (by kernel_rfl) (by kernel_rfl) (fun _ _ _ h => h) ?_
  refine RunU.one (dst := none) (op := .store 23 (.tmp 39) (.tmp 37)) 17 #[true, true, true, true, true, true, true, true, true, true, true, true, true, true, true, true, true, true] [] (by kernel_rfl) (by kernel_rfl) (Step.store_blknum hU 0 p (0 + (d).toNat * 1) 87 ((d).toNat) .u32 (xs.set ((a).toNat) (IntKind.wrap .u32 ((xs.getD ((a).toNat) 0) + (xs.getD ((b).toNat) 0)))) (rotl (bits2 .xor .u32 ((xs.set ((a).toNat) (IntKind.wrap .u32 ((xs.getD ((a).toNat) 0) + (xs.getD ((b).toNat) 0)))).getD ((d).toNat) 0) ((xs.set ((a).toNat) (IntKind.wrap .u32 ((xs.getD ((a).toNat) 0) + (xs.getD ((b).toNat) 0)))).getD ((a).toNat) 0)) k) (by kernel_rfl) (by kernel_rfl) (by kernel_rfl) rfl (by omega) (by omega) ?_)
  have hl2 : ((xs.set ((a).toNat) (IntKind.wrap .u32 ((xs.getD ((a).toNat) 0) + (xs.getD ((b).toNat) 0)))).set ((d).toNat) (rotl (bits2 .xor .u32 ((xs.set ((a).toNat) (IntKind.wrap .u32 ((xs.getD ((a).toNat) 0) + (xs.getD ((b).toNat) 0)))).getD ((d).toNat) 0) ((xs.set ((a).toNat) (IntKind.wrap .u32 ((xs.getD ((a).toNat) 0) + (xs.getD ((b).toNat) 0)))).getD ((a).toNat) 0)) k)).length = (xs.set ((a).toNat) (IntKind.wrap .u32 ((xs.getD ((a).toNat) 0) + (xs.getD ((b).toNat) 0)))).length := List.length_set
  refine ⟨.inr (by kernel_rfl), ?_⟩
  refine RunU.env [] [] (by kernel_rfl) ?_
  refine RunU.done (by kernel_rfl) ?_
  refine kret_n [] [0] [blk p 87 (nums .u32 ((xs.set ((a).toNat) (IntKind.wrap .u32 ((xs.getD ((a).toNat) 0) + (xs.getD ((b).toNat) 0)))).set ((d).toNat) (rotl (bits2 .xor .u32 ((xs.set ((a).toNat) (IntKind.wrap .u32 ((xs.getD ((a).toNat) 0) + (xs.getD ((b).toNat) 0)))).getD ((d).toNat) 0) ((xs.set ((a).toNat) (IntKind.wrap .u32 ((xs.getD ((a).toNat) 0) + (xs.getD ((b).toNat) 0)))).getD ((a).toNat) 0)) k)))] trivial (by kernel_rfl) rfl ⟨((xs.set ((a).toNat) (IntKind.wrap .u32 ((xs.getD ((a).toNat) 0) + (xs.getD ((b).toNat) 0)))).set ((d).toNat) (rotl (bits2 .xor .u32 ((xs.set ((a).toNat) (IntKind.wrap .u32 ((xs.getD ((a).toNat) 0) + (xs.getD ((b).toNat) 0)))).getD ((d).toNat) 0) ((xs.set ((a).toNat) (IntKind.wrap .u32 ((xs.getD ((a).toNat) 0) + (xs.getD ((b).toNat) 0)))).getD ((a).toNat) 0)) k)), rfl, rfl, (by rfl), (by simpa using hl)⟩

theorem c_quarter_spec (p : Nat) (xs : List Int) (q0 : Int) (q1 : Int) (q2 : Int) (q3 : Int) (hl : xs.length = 16) (hq0 : 0 ≤ q0 ∧ q0 < 16) (hq1 : 0 ≤ q1 ∧ q1 < 16) (hq2 : 0 ≤ q2 ∧ q2 < 16) (hq3 : 0 ≤ q3 ∧ q3 < 16) :
    CallsS Try.prog 58 [.pointer (some ⟨p, 0, none⟩), .agg #[.int .i64 q0, .int .i64 q1, .int .i64 q2, .int .i64 q3]] [blk p 87 (nums .u32 xs)] (fun r D => ∃ (zs : List Int), r = .tuple #[] ∧ D = [blk p 87 (nums .u32 zs)] ∧ (zs = quarter xs q0 q1 q2 q3) ∧ (zs.length = 16)) := by
  refine CallsS.enter hU Try.f58 _ [] 36 Try.func58 rfl (by decide) rfl rfl (by kernel_rfl) fun w0 W => ?_
  refine RunC.seq ?_
  refine RunC.region ?_
  refine RunR.step (dst := some 3) (op := .box 73 (.tmp 1)) (by kernel_rfl) (Step.box (.agg #[.int .i64 q0, .int .i64 q1, .int .i64 q2, .int .i64 q3]) (by kernel_rfl) (by kernel_rfl) (fun b1 => ?_))
  refine RunR.done (by kernel_rfl) ?_
  refine kseq_n ?_
  refine RunC.seq ?_
  refine RunC.region ?_
  refine RunR.sil hU [] 2 2 [0, 3, 4, 5] [(0, .pointer (some ⟨p, 0, none⟩)), (3, .pointer (some ⟨b1, 0, none⟩)), (4, .pointer (some ⟨p, 0, none⟩)), (5, .pointer (some ⟨b1, 0, none⟩))] ((True) ∧ (0 ≤ (0 : Int) ∧ (0 : Int) < ((4 : Nat) : Int)) ∧ True) rfl (by kernel_rfl) ⟨trivial, (by omega), trivial⟩ ?_
  refine RunR.step (dst := some 6) (op := .load 3 (.tmp 5)) (by kernel_rfl) (Step.load_blk hU 0 b1 (0) 73 [.int .i64 q0, .int .i64 q1, .int .i64 q2, .int .i64 q3] (.int .i64 q0) (by kernel_rfl) (by kernel_rfl) (by kernel_rfl) (by kernel_rfl) ?_)
  refine RunR.sil hU [] 1 4 [0, 3, 4, 6, 7] [(0, .pointer (some ⟨p, 0, none⟩)), (3, .pointer (some ⟨b1, 0, none⟩)), (4, .pointer (some ⟨p, 0, none⟩)), (6, .int .i64 q0), (7, .pointer (some ⟨b1, 1, none⟩))] ((0 ≤ (1 : Int) ∧ (1 : Int) < ((4 : Nat) : Int)) ∧ True) rfl (by kernel_rfl) ⟨(by omega), trivial⟩ ?_
  refine RunR.step (dst := some 8) (op := .load 3 (.tmp 7)) (by kernel_rfl) (Step.load_blk hU 0 b1 (1) 73 [.int .i64 q0, .int .i64 q1, .int .i64 q2, .int .i64 q3] (.int .i64 q1) (by kernel_rfl) (by kernel_rfl) (by kernel_rfl) (by kernel_rfl) ?_)
  refine RunR.sil hU [] 1 6 [0, 3, 4, 6, 8, 9] [(0, .pointer (some ⟨p, 0, none⟩)), (3, .pointer (some ⟨b1, 0, none⟩)), (4, .pointer (some ⟨p, 0, none⟩)), (6, .int .i64 q0), (8, .int .i64 q1), (9, .pointer (some ⟨b1, 3, none⟩))] ((0 ≤ (3 : Int) ∧ (3 : Int) < ((4 : Nat) : Int)) ∧ True) rfl (by kernel_rfl) ⟨(by omega), trivial⟩ ?_
  refine RunR.step (dst := some 10) (op := .load 3 (.tmp 9)) (by kernel_rfl) (Step.load_blk hU 0 b1 (3) 73 [.int .i64 q0, .int .i64 q1, .int .i64 q2, .int .i64 q3] (.int .i64 q3) (by kernel_rfl) (by kernel_rfl) (by kernel_rfl) (by kernel_rfl) ?_)
  refine RunR.step (dst := some 11) (op := .call { callee := .value (.func 74), args := #[.tmp 4, .tmp 6, .tmp 8, .tmp 10, .const (.int .i64 16)], argTypes := #[101, 3, 3, 3, 3] }) (by kernel_rfl) (Step.call 74 [.pointer (some ⟨p, 0, none⟩), .int .i64 q0, .int .i64 q1, .int .i64 q3, .int .i64 16] (by kernel_rfl) (by kernel_rfl) [blk p 87 (nums .u32 xs)] [] [blk b1 73 [.int .i64 q0, .int .i64 q1, .int .i64 q2, .int .i64 q3]] (c_half_spec p xs q0 q1 q3 16 (by first | rfl | assumption | omega | (simp only [List.length_append, List.length_cons, List.length_nil, List.length_set, List.length_replicate, List.length_take, List.length_drop]; omega) | (simp; done)) (by first | assumption | omega | (simp only [List.length_append, List.length_cons, List.length_nil, List.length_set, List.length_replicate, List.length_take, List.length_drop]; omega) | (simp only [fits] at *; omega) | (simp only [List.length_append, List.length_cons, List.length_nil, List.length_set, List.length_replicate, List.length_take, List.length_drop] at *; omega) | (simp; done) | decide) (by first | assumption | omega | (simp only [List.length_append, List.length_cons, List.length_nil, List.length_set, List.length_replicate, List.length_take, List.length_drop]; omega) | (simp only [fits] at *; omega) | (simp only [List.length_append, List.length_cons, List.length_nil, List.length_set, List.length_replicate, List.length_take, List.length_drop] at *; omega) | (simp; done) | decide) (by first | assumption | omega | (simp only [List.length_append, List.length_cons, List.length_nil, List.length_set, List.length_replicate, List.length_take, List.length_drop]; omega) | (simp only [fits] at *; omega) | (simp only [List.length_append, List.length_cons, List.length_nil, List.length_set, List.length_replicate, List.length_take, List.length_drop] at *; omega) | (simp; done) | decide) (by first | assumption | omega | (simp only [List.length_append, List.length_cons, List.length_nil, List.length_set, List.length_replicate, List.length_take, List.length_drop]; omega) | (simp only [fits] at *; omega) | (simp only [List.length_append, List.length_cons, List.length_nil, List.length_set, List.length_replicate, List.length_take, List.length_drop] at *; omega) | (simp; done) | decide)) [1] (by kernel_rfl) (Lend.nil _) ?_)
  rintro _ _ ⟨zs2, rfl, rfl, hp3, hp4⟩
  refine RunR.done (by kernel_rfl) ?_
  refine kseq_n ?_
  refine RunC.seq ?_
  refine RunC.region ?_
  refine RunR.sil hU [] 2 2 [0, 3, 12, 13] [(0, .pointer (some ⟨p, 0, none⟩)), (3, .pointer (some ⟨b1, 0, none⟩)), (12, .pointer (some ⟨p, 0, none⟩)), (13, .pointer (some ⟨b1, 2, none⟩))] ((True) ∧ (0 ≤ (2 : Int) ∧ (2 : Int) < ((4 : Nat) : Int)) ∧ True) rfl (by kernel_rfl) ⟨trivial, (by omega), trivial⟩ ?_
  refine RunR.step (dst := some 14) (op := .load 3 (.tmp 13)) (by kernel_rfl) (Step.load_blk hU 1 b1 (2) 73 [.int .i64 q0, .int .i64 q1, .int .i64 q2, .int .i64 q3] (.int .i64 q2) (by kernel_rfl) (by kernel_rfl) (by kernel_rfl) (by kernel_rfl) ?_)
  refine RunR.sil hU [] 1 4 [0, 3, 12, 14, 15] [(0, .pointer (some ⟨p, 0, none⟩)), (3, .pointer (some ⟨b1, 0, none⟩)), (12, .pointer (some ⟨p, 0, none⟩)), (14, .int .i64 q2), (15, .pointer (some ⟨b1, 3, none⟩))] ((0 ≤ (3 : Int) ∧ (3 : Int) < ((4 : Nat) : Int)) ∧ True) rfl (by kernel_rfl) ⟨(by omega), trivial⟩ ?_
  refine RunR.step (dst := some 16) (op := .load 3 (.tmp 15)) (by kernel_rfl) (Step.load_blk hU 1 b1 (3) 73 [.int .i64 q0, .int .i64 q1, .int .i64 q2, .int .i64 q3] (.int .i64 q3) (by kernel_rfl) (by kernel_rfl) (by kernel_rfl) (by kernel_rfl) ?_)
  refine RunR.sil hU [] 1 6 [0, 3, 12, 14, 16, 17] [(0, .pointer (some ⟨p, 0, none⟩)), (3, .pointer (some ⟨b1, 0, none⟩)), (12, .pointer (some ⟨p, 0, none⟩)), (14, .int .i64 q2), (16, .int .i64 q3), (17, .pointer (some ⟨b1, 1, none⟩))] ((0 ≤ (1 : Int) ∧ (1 : Int) < ((4 : Nat) : Int)) ∧ True) rfl (by kernel_rfl) ⟨(by omega), trivial⟩ ?_
  refine RunR.step (dst := some 18) (op := .load 3 (.tmp 17)) (by kernel_rfl) (Step.load_blk hU 1 b1 (1) 73 [.int .i64 q0, .int .i64 q1, .int .i64 q2, .int .i64 q3] (.int .i64 q1) (by kernel_rfl) (by kernel_rfl) (by kernel_rfl) (by kernel_rfl) ?_)
  refine RunR.step (dst := some 19) (op := .call { callee := .value (.func 74), args := #[.tmp 12, .tmp 14, .tmp 16, .tmp 18, .const (.int .i64 12)], argTypes := #[101, 3, 3, 3, 3] }) (by kernel_rfl) (Step.call 74 [.pointer (some ⟨p, 0, none⟩), .int .i64 q2, .int .i64 q3, .int .i64 q1, .int .i64 12] (by kernel_rfl) (by kernel_rfl) [blk p 87 (nums .u32 zs2)] [] [blk b1 73 [.int .i64 q0, .int .i64 q1, .int .i64 q2, .int .i64 q3]] (c_half_spec p zs2 q2 q3 q1 12 (by first | rfl | assumption | omega | (simp only [List.length_append, List.length_cons, List.length_nil, List.length_set, List.length_replicate, List.length_take, List.length_drop]; omega) | (simp; done)) (by first | assumption | omega | (simp only [List.length_append, List.length_cons, List.length_nil, List.length_set, List.length_replicate, List.length_take, List.length_drop]; omega) | (simp only [fits] at *; omega) | (simp only [List.length_append, List.length_cons, List.length_nil, List.length_set, List.length_replicate, List.length_take, List.length_drop] at *; omega) | (simp; done) | decide) (by first | assumption | omega | (simp only [List.length_append, List.length_cons, List.length_nil, List.length_set, List.length_replicate, List.length_take, List.length_drop]; omega) | (simp only [fits] at *; omega) | (simp only [List.length_append, List.length_cons, List.length_nil, List.length_set, List.length_replicate, List.length_take, List.length_drop] at *; omega) | (simp; done) | decide) (by first | assumption | omega | (simp only [List.length_append, List.length_cons, List.length_nil, List.length_set, List.length_replicate, List.length_take, List.length_drop]; omega) | (simp only [fits] at *; omega) | (simp only [List.length_append, List.length_cons, List.length_nil, List.length_set, List.length_replicate, List.length_take, List.length_drop] at *; omega) | (simp; done) | decide) (by first | assumption | omega | (simp only [List.length_append, List.length_cons, List.length_nil, List.length_set, List.length_replicate, List.length_take, List.length_drop]; omega) | (simp only [fits] at *; omega) | (simp only [List.length_append, List.length_cons, List.length_nil, List.length_set, List.length_replicate, List.length_take, List.length_drop] at *; omega) | (simp; done) | decide)) [0] (by kernel_rfl) (Lend.nil _) ?_)
  rintro _ _ ⟨zs5, rfl, rfl, hp6, hp7⟩
  refine RunR.done (by kernel_rfl) ?_
  refine kseq_n ?_
  refine RunC.seq ?_
  refine RunC.region ?_
  refine RunR.sil hU [] 2 2 [0, 3, 20, 21] [(0, .pointer (some ⟨p, 0, none⟩)), (3, .pointer (some ⟨b1, 0, none⟩)), (20, .pointer (some ⟨p, 0, none⟩)), (21, .pointer (some ⟨b1, 0, none⟩))] ((True) ∧ (0 ≤ (0 : Int) ∧ (0 : Int) < ((4 : Nat) : Int)) ∧ True) rfl (by kernel_rfl) ⟨trivial, (by omega), trivial⟩ ?_
  refine RunR.step (dst := some 22) (op := .load 3 (.tmp 21)) (by kernel_rfl) (Step.load_blk hU 1 b1 (0) 73 [.int .i64 q0, .int .i64 q1, .int .i64 q2, .int .i64 q3] (.int .i64 q0) (by kernel_rfl) (by kernel_rfl) (by kernel_rfl) (by kernel_rfl) ?_)
  refine RunR.sil hU [] 1 4 [0, 3, 20, 22, 23] [(0, .pointer (some ⟨p, 0, none⟩)), (3, .pointer (some ⟨b1, 0, none⟩)), (20, .pointer (some ⟨p, 0, none⟩)), (22, .int .i64 q0), (23, .pointer (some ⟨b1, 1, none⟩))] ((0 ≤ (1 : Int) ∧ (1 : Int) < ((4 : Nat) : Int)) ∧ True) rfl (by kernel_rfl) ⟨(by omega), trivial⟩ ?_
  refine RunR.step (dst := some 24) (op := .load 3 (.tmp 23)) (by kernel_rfl) (Step.load_blk hU 1 b1 (1) 73 [.int .i64 q0, .int .i64 q1, .int .i64 q2, .int .i64 q3] (.int .i64 q1) (by kernel_rfl) (by kernel_rfl) (by kernel_rfl) (by kernel_rfl) ?_)
  refine RunR.sil hU [] 1 6 [0, 3, 20, 22, 24, 25] [(0, .pointer (some ⟨p, 0, none⟩)), (3, .pointer (some ⟨b1, 0, none⟩)), (20, .pointer (some ⟨p, 0, none⟩)), (22, .int .i64 q0), (24, .int .i64 q1), (25, .pointer (some ⟨b1, 3, none⟩))] ((0 ≤ (3 : Int) ∧ (3 : Int) < ((4 : Nat) : Int)) ∧ True) rfl (by kernel_rfl) ⟨(by omega), trivial⟩ ?_
  refine RunR.step (dst := some 26) (op := .load 3 (.tmp 25)) (by kernel_rfl) (Step.load_blk hU 1 b1 (3) 73 [.int .i64 q0, .int .i64 q1, .int .i64 q2, .int .i64 q3] (.int .i64 q3) (by kernel_rfl) (by kernel_rfl) (by kernel_rfl) (by kernel_rfl) ?_)
  refine RunR.step (dst := some 27) (op := .call { callee := .value (.func 74), args := #[.tmp 20, .tmp 22, .tmp 24, .tmp 26, .const (.int .i64 8)], argTypes := #[101, 3, 3, 3, 3] }) (by kernel_rfl) (Step.call 74 [.pointer (some ⟨p, 0, none⟩), .int .i64 q0, .int .i64 q1, .int .i64 q3, .int .i64 8] (by kernel_rfl) (by kernel_rfl) [blk p 87 (nums .u32 zs5)] [] [blk b1 73 [.int .i64 q0, .int .i64 q1, .int .i64 q2, .int .i64 q3]] (c_half_spec p zs5 q0 q1 q3 8 (by first | rfl | assumption | omega | (simp only [List.length_append, List.length_cons, List.length_nil, List.length_set, List.length_replicate, List.length_take, List.length_drop]; omega) | (simp; done)) (by first | assumption | omega | (simp only [List.length_append, List.length_cons, List.length_nil, List.length_set, List.length_replicate, List.length_take, List.length_drop]; omega) | (simp only [fits] at *; omega) | (simp only [List.length_append, List.length_cons, List.length_nil, List.length_set, List.length_replicate, List.length_take, List.length_drop] at *; omega) | (simp; done) | decide) (by first | assumption | omega | (simp only [List.length_append, List.length_cons, List.length_nil, List.length_set, List.length_replicate, List.length_take, List.length_drop]; omega) | (simp only [fits] at *; omega) | (simp only [List.length_append, List.length_cons, List.length_nil, List.length_set, List.length_replicate, List.length_take, List.length_drop] at *; omega) | (simp; done) | decide) (by first | assumption | omega | (simp only [List.length_append, List.length_cons, List.length_nil, List.length_set, List.length_replicate, List.length_take, List.length_drop]; omega) | (simp only [fits] at *; omega) | (simp only [List.length_append, List.length_cons, List.length_nil, List.length_set, List.length_replicate, List.length_take, List.length_drop] at *; omega) | (simp; done) | decide) (by first | assumption | omega | (simp only [List.length_append, List.length_cons, List.length_nil, List.length_set, List.length_replicate, List.length_take, List.length_drop]; omega) | (simp only [fits] at *; omega) | (simp only [List.length_append, List.length_cons, List.length_nil, List.length_set, List.length_replicate, List.length_take, List.length_drop] at *; omega) | (simp; done) | decide)) [0] (by kernel_rfl) (Lend.nil _) ?_)
  rintro _ _ ⟨zs8, rfl, rfl, hp9, hp10⟩
  refine RunR.done (by kernel_rfl) ?_
  refine kseq_n ?_
  refine RunC.region ?_
  refine RunR.sil hU [] 2 2 [3, 28, 29] [(3, .pointer (some ⟨b1, 0, none⟩)), (28, .pointer (some ⟨p, 0, none⟩)), (29, .pointer (some ⟨b1, 2, none⟩))] ((True) ∧ (0 ≤ (2 : Int) ∧ (2 : Int) < ((4 : Nat) : Int)) ∧ True) rfl (by kernel_rfl) ⟨trivial, (by omega), trivial⟩ ?_
  refine RunR.step (dst := some 30) (op := .load 3 (.tmp 29)) (by kernel_rfl) (Step.load_blk hU 1 b1 (2) 73 [.int .i64 q0, .int .i64 q1, .int .i64 q2, .int .i64 q3] (.int .i64 q2) (by kernel_rfl) (by kernel_rfl) (by kernel_rfl) (by kernel_rfl) ?_)
  refine RunR.sil hU [] 1 4 [3, 28, 30, 31] [(3, .pointer (some ⟨b1, 0, none⟩)), (28, .pointer (some ⟨p, 0, none⟩)), (30, .int .i64 q2), (31, .pointer (some ⟨b1, 3, none⟩))] ((0 ≤ (3 : Int) ∧ (3 : Int) < ((4 : Nat) : Int)) ∧ True) rfl (by kernel_rfl) ⟨(by omega), trivial⟩ ?_
  refine RunR.step (dst := some 32) (op := .load 3 (.tmp 31)) (by kernel_rfl) (Step.load_blk hU 1 b1 (3) 73 [.int .i64 q0, .int .i64 q1, .int .i64 q2, .int .i64 q3] (.int .i64 q3) (by kernel_rfl) (by kernel_rfl) (by kernel_rfl) (by kernel_rfl) ?_)
  refine RunR.sil hU [] 1 6 [28, 30, 32, 33] [(28, .pointer (some ⟨p, 0, none⟩)), (30, .int .i64 q2), (32, .int .i64 q3), (33, .pointer (some ⟨b1, 1, none⟩))] ((0 ≤ (1 : Int) ∧ (1 : Int) < ((4 : Nat) : Int)) ∧ True) rfl (by kernel_rfl) ⟨(by omega), trivial⟩ ?_
  refine RunR.step (dst := some 34) (op := .load 3 (.tmp 33)) (by kernel_rfl) (Step.load_blk hU 1 b1 (1) 73 [.int .i64 q0, .int .i64 q1, .int .i64 q2, .int .i64 q3] (.int .i64 q1) (by kernel_rfl) (by kernel_rfl) (by kernel_rfl) (by kernel_rfl) ?_)
  refine RunR.step (dst := some 35) (op := .call { callee := .value (.func 74), args := #[.tmp 28, .tmp 30, .tmp 32, .tmp 34, .const (.int .i64 7)], argTypes := #[101, 3, 3, 3, 3] }) (by kernel_rfl) (Step.call 74 [.pointer (some ⟨p, 0, none⟩), .int .i64 q2, .int .i64 q3, .int .i64 q1, .int .i64 7] (by kernel_rfl) (by kernel_rfl) [blk p 87 (nums .u32 zs8)] [] [blk b1 73 [.int .i64 q0, .int .i64 q1, .int .i64 q2, .int .i64 q3]] (c_half_spec p zs8 q2 q3 q1 7 (by first | rfl | assumption | omega | (simp only [List.length_append, List.length_cons, List.length_nil, List.length_set, List.length_replicate, List.length_take, List.length_drop]; omega) | (simp; done)) (by first | assumption | omega | (simp only [List.length_append, List.length_cons, List.length_nil, List.length_set, List.length_replicate, List.length_take, List.length_drop]; omega) | (simp only [fits] at *; omega) | (simp only [List.length_append, List.length_cons, List.length_nil, List.length_set, List.length_replicate, List.length_take, List.length_drop] at *; omega) | (simp; done) | decide) (by first | assumption | omega | (simp only [List.length_append, List.length_cons, List.length_nil, List.length_set, List.length_replicate, List.length_take, List.length_drop]; omega) | (simp only [fits] at *; omega) | (simp only [List.length_append, List.length_cons, List.length_nil, List.length_set, List.length_replicate, List.length_take, List.length_drop] at *; omega) | (simp; done) | decide) (by first | assumption | omega | (simp only [List.length_append, List.length_cons, List.length_nil, List.length_set, List.length_replicate, List.length_take, List.length_drop]; omega) | (simp only [fits] at *; omega) | (simp only [List.length_append, List.length_cons, List.length_nil, List.length_set, List.length_replicate, List.length_take, List.length_drop] at *; omega) | (simp; done) | decide) (by first | assumption | omega | (simp only [List.length_append, List.length_cons, List.length_nil, List.length_set, List.length_replicate, List.length_take, List.length_drop]; omega) | (simp only [fits] at *; omega) | (simp only [List.length_append, List.length_cons, List.length_nil, List.length_set, List.length_replicate, List.length_take, List.length_drop] at *; omega) | (simp; done) | decide)) [0] (by kernel_rfl) (Lend.nil _) ?_)
  rintro _ _ ⟨zs11, rfl, rfl, hp12, hp13⟩
  refine RunR.done (by kernel_rfl) ?_
  refine kret_n [] [0] [blk p 87 (nums .u32 zs11)] trivial (by kernel_rfl) rfl ⟨zs11, rfl, rfl, (by simp only [quarter, hp3, hp6, hp9, hp12]), (by assumption)⟩

theorem c_quarters_spec  :
    CallsS Try.prog 57 [] [] (fun r D => r = .agg (nums .i64 ([0, 4, 8, 12, 1, 5, 9, 13, 2, 6, 10, 14, 3, 7, 11, 15, 0, 5, 10, 15, 1, 6, 11, 12, 2, 7, 8, 13, 3, 4, 9, 14] : List Int)).toArray ∧ D = []) := by
  refine CallsS.enter hU Try.f57 _ [.cell 0 89] 10 Try.func57 rfl (by decide) rfl rfl (by kernel_rfl) fun w0 W => ?_
  refine RunC.seq ?_
  refine RunC.region ?_
  refine RunR.step (dst := some 0) (op := .alloc 89) (by kernel_rfl) (Step.alloc hU 32 256 (.agg #[.int .i64 0, .int .i64 0, .int .i64 0, .int .i64 0, .int .i64 0, .int .i64 0, .int .i64 0, .int .i64 0, .int .i64 0, .int .i64 0, .int .i64 0, .int .i64 0, .int .i64 0, .int .i64 0, .int .i64 0, .int .i64 0, .int .i64 0, .int .i64 0, .int .i64 0, .int .i64 0, .int .i64 0, .int .i64 0, .int .i64 0, .int .i64 0, .int .i64 0, .int .i64 0, .int .i64 0, .int .i64 0, .int .i64 0, .int .i64 0, .int .i64 0, .int .i64 0]) rfl (by kernel_rfl) (fun b1 => ?_))
  refine RunR.done (by kernel_rfl) ?_
  refine kseq_n ?_
  refine RunC.seq ?_
  refine RunC.region ?_
  refine RunR.sil hU [] 9 9 [0, 9] [(0, .pointer (some ⟨b1, 0, none⟩)), (9, .agg (nums .i64 ([0,  4,  8,  12, 1,  5,  9,  13, 2,  6,  10,  14, 3,  7,  11,  15, 0,  5,  10,  15, 1,  6,  11,  12, 2,  7,  8,  13, 3,  4,  9,  14] : List Int)).toArray)] ((True) ∧ (True) ∧ (True) ∧ (True) ∧ (True) ∧ (True) ∧ (True) ∧ (True) ∧ (True) ∧ True) rfl (by kernel_rfl) ⟨trivial, trivial, trivial, trivial, trivial, trivial, trivial, trivial, trivial, trivial⟩ ?_
  refine RunR.step (dst := none) (op := .store 89 (.tmp 0) (.tmp 9)) (by kernel_rfl) (Step.store_arr hU 0 b1 89 32 .i64 (List.replicate 32 (0 : Int)) ([0,  4,  8,  12, 1,  5,  9,  13, 2,  6,  10,  14, 3,  7,  11,  15, 0,  5,  10,  15, 1,  6,  11,  12, 2,  7,  8,  13, 3,  4,  9,  14] : List Int) (by kernel_rfl) (by kernel_rfl) (by kernel_rfl) (by kernel_rfl) (by first | rfl | omega | (simp; done)) (by first | rfl | omega | (simp; done)) ?_)
  have hl2 : (([0,  4,  8,  12, 1,  5,  9,  13, 2,  6,  10,  14, 3,  7,  11,  15, 0,  5,  10,  15, 1,  6,  11,  12, 2,  7,  8,  13, 3,  4,  9,  14] : List Int)).length = 32 := rfl
  refine RunR.done (by kernel_rfl) ?_
  refine kseq_n ?_
  refine RunC.ret ?_
  refine kret_r [.agg (nums .i64 ([0,  4,  8,  12, 1,  5,  9,  13, 2,  6,  10,  14, 3,  7,  11,  15, 0,  5,  10,  15, 1,  6,  11,  12, 2,  7,  8,  13, 3,  4,  9,  14] : List Int)).toArray] [] [] ⟨⟨0, b1, 0, 89, nums .i64 ([0,  4,  8,  12, 1,  5,  9,  13, 2,  6,  10,  14, 3,  7,  11,  15, 0,  5,  10,  15, 1,  6,  11,  12, 2,  7,  8,  13, 3,  4,  9,  14] : List Int), rfl, rfl, by kernel_rfl⟩, trivial⟩ (by kernel_rfl) rfl ⟨rfl, rfl⟩

theorem c_begin_spec (A : Option Addr) (c : Nat) (xs : List Int) (A2 : Option Addr) (c2 : Nat) (ys : List Int) (n : Int) (l_xs : Nat) (l_ys : Nat) (hx : In .u8 xs) (hy : In .u8 ys) (hxl : xs.length = 32) (hyl : ys.length = 12) (hn : fits .u32 n) (hcx : xs.length ≤ c) (hcy : ys.length ≤ c2) (hl_xs : xs.length = l_xs) (hl_ys : ys.length = l_ys) :
    CallsS Try.prog 56 [.slice A l_xs c, .slice A2 l_ys c2, .int .u32 n] [vw A (nums .u8 xs), vw A2 (nums .u8 ys)] (fun r D => ∃ (zs : List Int), r = .agg (nums .u32 zs).toArray ∧ D = [] ∧ (zs = begin_ xs ys n) ∧ (zs.length = 16)) := by
  subst hl_xs
  subst hl_ys
  refine CallsS.enter hU Try.f56 _ [.cell 6 87] 38 Try.func56 rfl (by decide) rfl rfl (by kernel_rfl) fun w0 W => ?_
  refine RunC.know (p := 0 < xs.length → Option.isSome A = true) (fun w hs => vw_some hs 0 rfl (by simp [nums_length])) (fun hA1 => ?_)
  refine RunC.know (p := 0 < ys.length → Option.isSome A2 = true) (fun w hs => vw_some hs 1 rfl (by simp [nums_length])) (fun hA2 => ?_)
  refine RunC.seq ?_
  refine RunC.region ?_
  refine RunR.step (dst := some 6) (op := .alloc 87) (by kernel_rfl) (Step.alloc hU 16 64 (.agg #[.int .u32 0, .int .u32 0, .int .u32 0, .int .u32 0, .int .u32 0, .int .u32 0, .int .u32 0, .int .u32 0, .int .u32 0, .int .u32 0, .int .u32 0, .int .u32 0, .int .u32 0, .int .u32 0, .int .u32 0, .int .u32 0]) rfl (by kernel_rfl) (fun b3 => ?_))
  refine RunR.done (by kernel_rfl) ?_
  refine kseq_n ?_
  refine RunC.seq ?_
  refine RunC.region ?_
  refine RunR.sil hU [] 1 1 [0, 1, 2, 6, 10] [(0, .slice A xs.length c), (1, .slice A2 ys.length c2), (2, .int .u32 n), (6, .pointer (some ⟨b3, 0, none⟩)), (10, .agg (nums .u32 ([1634760805, 857760878, 2036477234, 1797285236, 0, 0, 0, 0, 0, 0, 0, 0, 0, 0, 0, 0] : List Int)).toArray)] ((True) ∧ True) rfl (by kernel_rfl) ⟨trivial, trivial⟩ ?_
  refine RunR.step (dst := some 7) (op := .alloc 87) (by kernel_rfl) (Step.alloc hU 16 64 (.agg #[.int .u32 0, .int .u32 0, .int .u32 0, .int .u32 0, .int .u32 0, .int .u32 0, .int .u32 0, .int .u32 0, .int .u32 0, .int .u32 0, .int .u32 0, .int .u32 0, .int .u32 0, .int .u32 0, .int .u32 0, .int .u32 0]) rfl (by kernel_rfl) (fun b4 => ?_))
  refine RunR.step (dst := none) (op := .store 87 (.tmp 7) (.tmp 10)) (by kernel_rfl) (Step.store_arr hU 0 b4 87 16 .u32 (List.replicate 16 (0 : Int)) ([1634760805, 857760878, 2036477234, 1797285236, 0, 0, 0, 0, 0, 0, 0, 0, 0, 0, 0, 0] : List Int) (by kernel_rfl) (by kernel_rfl) (by kernel_rfl) (by kernel_rfl) (by first | rfl | omega | (simp; done)) (by first | rfl | omega | (simp; done)) ?_)
  have hl5 : (([1634760805, 857760878, 2036477234, 1797285236, 0, 0, 0, 0, 0, 0, 0, 0, 0, 0, 0, 0] : List Int)).length = 16 := rfl
  refine RunR.done (by kernel_rfl) ?_
  refine kseq_n ?_
  refine RunC.seq ?_
  refine RunC.seq ?_
  refine RunC.region ?_
  refine RunR.sil hU [] 1 1 [0, 1, 2, 6, 7, 11] [(0, .slice A xs.length c), (1, .slice A2 ys.length c2), (2, .int .u32 n), (6, .pointer (some ⟨b3, 0, none⟩)), (7, .pointer (some ⟨b4, 0, none⟩)), (11, .int .i64 0)] ((True) ∧ True) rfl (by kernel_rfl) ⟨trivial, trivial⟩ ?_
  refine RunR.done (by kernel_rfl) ?_
  refine kseq_n ?_
  refine RunC.block ?_
  refine RunC.unroll 8 ?_
  refine RunC.seq ?_
  refine RunC.region ?_
  refine RunR.sil hU [] 1 1 [0, 1, 2, 6, 7, 11, 12] [(0, .slice A xs.length c), (1, .slice A2 ys.length c2), (2, .int .u32 n), (6, .pointer (some ⟨b3, 0, none⟩)), (7, .pointer (some ⟨b4, 0, none⟩)), (11, .int .i64 0), (12, .bool true)] ((True) ∧ True) rfl (by kernel_rfl) ⟨trivial, trivial⟩ ?_
  refine RunR.done (by kernel_rfl) ?_
  refine kseq_n ?_
  refine RunC.seq ?_
  refine RunC.cond (b := true) (by kernel_rfl) (fun _ => ?_) (fun h => by cases h)
  refine RunC.skip ?_
  refine kseq_n ?_
  refine RunC.seq ?_
  refine RunC.block ?_
  refine RunC.seq ?_
  refine RunC.region ?_
  refine RunR.sil hU [] 2 2 [0, 1, 2, 6, 7, 8, 11, 12, 13] [(0, .slice A xs.length c), (1, .slice A2 ys.length c2), (2, .int .u32 n), (6, .pointer (some ⟨b3, 0, none⟩)), (7, .pointer (some ⟨b4, 0, none⟩)), (8, .int .i64 0), (11, .int .i64 0), (12, .bool true), (13, .int .i64 0)] ((True) ∧ (True) ∧ True) rfl (by kernel_rfl) ⟨trivial, trivial, trivial⟩ ?_
  refine RunR.done (by kernel_rfl) ?_
  refine kseq_n ?_
  refine RunC.region ?_
  refine RunR.sil hU [1, 4] 6 6 [0, 1, 2, 6, 7, 8, 11, 12, 13, 14, 15, 16, 17, 18, 19] [(0, .slice A xs.length c), (1, .slice A2 ys.length c2), (2, .int .u32 n), (6, .pointer (some ⟨b3, 0, none⟩)), (7, .pointer (some ⟨b4, 0, none⟩)), (8, .int .i64 0), (11, .int .i64 0), (12, .bool true), (13, .int .i64 0), (14, .int .i64 0), (15, .int .i64 4), (16, .slice A xs.length c), (17, .int .i64 0), (18, .int .i64 0), (19, .slice (subBase A 0 c 1) (xs.length - 0) (c - 0))] ((True) ∧ (-9223372036854775808 ≤ ((4 : Int) + 0) ∧ ((4 : Int) + 0) < 9223372036854775808) ∧ (True) ∧ (True) ∧ (-9223372036854775808 ≤ ((4 : Int) * 0) ∧ ((4 : Int) * 0) < 9223372036854775808) ∧ (0 ≤ (0 : Int) ∧ (0 : Int) ≤ ((xs.length : Nat) : Int)) ∧ True) rfl (by kernel_rfl) ⟨trivial, (by decide), trivial, trivial, (by decide), (by omega), trivial⟩ ?_
  obtain ⟨zs6, hz7⟩ : ∃ z : List Int, z = (xs.drop 0).take (xs.length - 0) := ⟨_, rfl⟩
  have hl8 : zs6.length = xs.length - 0 := by rw [hz7, List.length_take, List.length_drop]; omega
  have hB10_t : Tells (vw A (nums .u8 xs)) (subBase A 0 c 1) (nums .u8 zs6) := by rw [hz7]; exact tells_sub_nums (tells_vw _ _) _ _ _ (by omega) (by omega)
  have hA11 : 0 < zs6.length → Option.isSome (subBase A 0 c 1) = true := fun h => part_some (hA1 (by omega)) _ _ _
  refine RunR.env [0, 1, 2, 6, 7, 8, 11, 12, 13, 14, 15, 16, 17, 18, 19] [(0, .slice A xs.length c), (1, .slice A2 ys.length c2), (2, .int .u32 n), (6, .pointer (some ⟨b3, 0, none⟩)), (7, .pointer (some ⟨b4, 0, none⟩)), (8, .int .i64 0), (11, .int .i64 0), (12, .bool true), (13, .int .i64 0), (14, .int .i64 0), (15, .int .i64 4), (16, .slice A xs.length c), (17, .int .i64 0), (18, .int .i64 0), (19, .slice (subBase A 0 c 1) (xs.length - 0) (c - 0))] (by kernel_rfl) ?_
  refine RunR.enveq [(0, .slice A xs.length c), (1, .slice A2 ys.length c2), (2, .int .u32 n), (6, .pointer (some ⟨b3, 0, none⟩)), (7, .pointer (some ⟨b4, 0, none⟩)), (8, .int .i64 0), (11, .int .i64 0), (12, .bool true), (13, .int .i64 0), (14, .int .i64 0), (15, .int .i64 4), (16, .slice A xs.length c), (17, .int .i64 0), (18, .int .i64 0), (19, .slice (subBase A 0 c 1) zs6.length (c - 0))] (by rw [hl8]) ?_
  have hr12 : In .u8 zs6 := by rw [hz7]; exact (hx.drop _).take _
  refine RunR.step (dst := some 20) (op := .call { callee := .value (.func 73), args := #[.tmp 19], argTypes := #[22] }) (by kernel_rfl) (Step.call 73 [.slice (subBase A 0 c 1) zs6.length (c - 0)] (by kernel_rfl) (by kernel_rfl) [] [vw (subBase A 0 c 1) (nums .u8 zs6)] [blk b4 87 (nums .u32 ([1634760805, 857760878, 2036477234, 1797285236, 0, 0, 0, 0, 0, 0, 0, 0, 0, 0, 0, 0] : List Int)), blk b3 87 (nums .u32 (List.replicate 16 (0 : Int))), vw A (nums .u8 xs), vw A2 (nums .u8 ys)] (w_Get32_spec (subBase A 0 c 1) (c - 0) zs6 zs6.length hr12 (by first | assumption | omega | (simp only [List.length_append, List.length_cons, List.length_nil, List.length_set, List.length_replicate, List.length_take, List.length_drop]; omega) | (simp only [fits] at *; omega) | (simp only [List.length_append, List.length_cons, List.length_nil, List.length_set, List.length_replicate, List.length_take, List.length_drop] at *; omega) | (simp; done) | decide) (by first | rfl | assumption | omega | (simp only [List.length_append, List.length_cons, List.length_nil, List.length_set, List.length_replicate, List.length_take, List.length_drop]; omega) | (simp; done))) [] (by kernel_rfl) ((Lend.nil _).tells 2 (vw A (nums .u8 xs)) (subBase A 0 c 1) (nums .u8 zs6) (by kernel_rfl) (hB10_t)) ?_)
  rintro _ _ ⟨rfl, rfl⟩
  refine RunR.sil hU [] 1 8 [0, 1, 2, 6, 7, 8, 11, 12, 13, 14, 15, 16, 17, 18, 19, 20, 21] [(0, .slice A xs.length c), (1, .slice A2 ys.length c2), (2, .int .u32 n), (6, .pointer (some ⟨b3, 0, none⟩)), (7, .pointer (some ⟨b4, 0, none⟩)), (8, .int .i64 0), (11, .int .i64 0), (12, .bool true), (13, .int .i64 0), (14, .int .i64 0), (15, .int .i64 4), (16, .slice A xs.length c), (17, .int .i64 0), (18, .int .i64 0), (19, .slice (subBase A 0 c 1) zs6.length (c - 0)), (20, .int .u32 (leN zs6 4)), (21, .pointer (some ⟨b4, 4, none⟩))] ((0 ≤ (4 : Int) ∧ (4 : Int) < ((16 : Nat) : Int)) ∧ True) rfl (by kernel_rfl) ⟨(by omega), trivial⟩ ?_
  refine RunR.step (dst := none) (op := .store 23 (.tmp 21) (.tmp 20)) (by kernel_rfl) (Step.store_blknum hU 0 b4 (4) 87 4 .u32 ([1634760805, 857760878, 2036477234, 1797285236, 0, 0, 0, 0, 0, 0, 0, 0, 0, 0, 0, 0] : List Int) (leN zs6 4) (by kernel_rfl) (by kernel_rfl) (by kernel_rfl) rfl (by omega) (by omega) ?_)
  have hl13 : (([1634760805, 857760878, 2036477234, 1797285236, 0, 0, 0, 0, 0, 0, 0, 0, 0, 0, 0, 0] : List Int).set 4 (leN zs6 4)).length = ([1634760805, 857760878, 2036477234, 1797285236, 0, 0, 0, 0, 0, 0, 0, 0, 0, 0, 0, 0] : List Int).length := List.length_set
  refine RunR.done (by kernel_rfl) ?_
  refine kblock_n ?_
  refine kseq_n ?_
  refine RunC.region ?_
  refine RunR.sil hU [0] 2 2 [0, 1, 2, 6, 7, 8, 11, 12, 13, 14, 15, 16, 17, 18, 19, 20, 21, 22] [(0, .slice A xs.length c), (1, .slice A2 ys.length c2), (2, .int .u32 n), (6, .pointer (some ⟨b3, 0, none⟩)), (7, .pointer (some ⟨b4, 0, none⟩)), (8, .int .i64 0), (11, .int .i64 1), (12, .bool true), (13, .int .i64 0), (14, .int .i64 0), (15, .int .i64 4), (16, .slice A xs.length c), (17, .int .i64 0), (18, .int .i64 0), (19, .slice (subBase A 0 c 1) zs6.length (c - 0)), (20, .int .u32 (leN zs6 4)), (21, .pointer (some ⟨b4, 4, none⟩)), (22, .int .i64 1)] ((-9223372036854775808 ≤ ((0 : Int) + 1) ∧ ((0 : Int) + 1) < 9223372036854775808) ∧ (True) ∧ True) rfl (by kernel_rfl) ⟨(by decide), trivial, trivial⟩ ?_
  refine RunR.done (by kernel_rfl) ?_
  refine kround_n ?_
  refine RunC.seq ?_
  refine RunC.region ?_
  refine RunR.sil hU [] 1 1 [0, 1, 2, 6, 7, 8, 11, 12, 13, 14, 15, 16, 17, 18, 19, 20, 21, 22] [(0, .slice A xs.length c), (1, .slice A2 ys.length c2), (2, .int .u32 n), (6, .pointer (some ⟨b3, 0, none⟩)), (7, .pointer (some ⟨b4, 0, none⟩)), (8, .int .i64 0), (11, .int .i64 1), (12, .bool true), (13, .int .i64 0), (14, .int .i64 0), (15, .int .i64 4), (16, .slice A xs.length c), (17, .int .i64 0), (18, .int .i64 0), (19, .slice (subBase A 0 c 1) zs6.length (c - 0)), (20, .int .u32 (leN zs6 4)), (21, .pointer (some ⟨b4, 4, none⟩)), (22, .int .i64 1)] ((True) ∧ True) rfl (by kernel_rfl) ⟨trivial, trivial⟩ ?_
  refine RunR.done (by kernel_rfl) ?_
  refine kseq_n ?_
  refine RunC.seq ?_
  refine RunC.cond (b := true) (by kernel_rfl) (fun _ => ?_) (fun h => by cases h)
  refine RunC.skip ?_
  refine kseq_n ?_
  refine RunC.seq ?_
  refine RunC.block ?_
  refine RunC.seq ?_
  refine RunC.region ?_
  refine RunR.sil hU [] 2 2 [0, 1, 2, 6, 7, 8, 11, 12, 13, 14, 15, 16, 17, 18, 19, 20, 21, 22] [(0, .slice A xs.length c), (1, .slice A2 ys.length c2), (2, .int .u32 n), (6, .pointer (some ⟨b3, 0, none⟩)), (7, .pointer (some ⟨b4, 0, none⟩)), (8, .int .i64 1), (11, .int .i64 1), (12, .bool true), (13, .int .i64 1), (14, .int .i64 0), (15, .int .i64 4), (16, .slice A xs.length c), (17, .int .i64 0), (18, .int .i64 0), (19, .slice (subBase A 0 c 1) zs6.length (c - 0)), (20, .int .u32 (leN zs6 4)), (21, .pointer (some ⟨b4, 4, none⟩)), (22, .int .i64 1)] ((True) ∧ (True) ∧ True) rfl (by kernel_rfl) ⟨trivial, trivial, trivial⟩ ?_
  refine RunR.done (by kernel_rfl) ?_
  refine kseq_n ?_
  refine RunC.region ?_
  refine RunR.sil hU [1, 4] 6 6 [0, 1, 2, 6, 7, 8, 11, 12, 13, 14, 15, 16, 17, 18, 19, 20, 21, 22] [(0, .slice A xs.length c), (1, .slice A2 ys.length c2), (2, .int .u32 n), (6, .pointer (some ⟨b3, 0, none⟩)), (7, .pointer (some ⟨b4, 0, none⟩)), (8, .int .i64 1), (11, .int .i64 1), (12, .bool true), (13, .int .i64 1), (14, .int .i64 1), (15, .int .i64 5), (16, .slice A xs.length c), (17, .int .i64 1), (18, .int .i64 4), (19, .slice (subBase A 4 c 1) (xs.length - 4) (c - 4)), (20, .int .u32 (leN zs6 4)), (21, .pointer (some ⟨b4, 4, none⟩)), (22, .int .i64 1)] ((True) ∧ (-9223372036854775808 ≤ ((4 : Int) + 1) ∧ ((4 : Int) + 1) < 9223372036854775808) ∧ (True) ∧ (True) ∧ (-9223372036854775808 ≤ ((4 : Int) * 1) ∧ ((4 : Int) * 1) < 9223372036854775808) ∧ (0 ≤ (4 : Int) ∧ (4 : Int) ≤ ((xs.length : Nat) : Int)) ∧ True) rfl (by kernel_rfl) ⟨trivial, (by decide), trivial, trivial, (by decide), (by omega), trivial⟩ ?_
  obtain ⟨zs14, hz15⟩ : ∃ z : List Int, z = (xs.drop 4).take (xs.length - 4) := ⟨_, rfl⟩
  have hl16 : zs14.length = xs.length - 4 := by rw [hz15, List.length_take, List.length_drop]; omega
  have hB18_t : Tells (vw A (nums .u8 xs)) (subBase A 4 c 1) (nums .u8 zs14) := by rw [hz15]; exact tells_sub_nums (tells_vw _ _) _ _ _ (by omega) (by omega)
  have hA19 : 0 < zs14.length → Option.isSome (subBase A 4 c 1) = true := fun h => part_some (hA1 (by omega)) _ _ _
  refine RunR.env [0, 1, 2, 6, 7, 8, 11, 12, 13, 14, 15, 16, 17, 18, 19, 20, 21, 22] [(0, .slice A xs.length c), (1, .slice A2 ys.length c2), (2, .int .u32 n), (6, .pointer (some ⟨b3, 0, none⟩)), (7, .pointer (some ⟨b4, 0, none⟩)), (8, .int .i64 1), (11, .int .i64 1), (12, .bool true), (13, .int .i64 1), (14, .int .i64 1), (15, .int .i64 5), (16, .slice A xs.length c), (17, .int .i64 1), (18, .int .i64 4), (19, .slice (subBase A 4 c 1) (xs.length - 4) (c - 4)), (20, .int .u32 (leN zs6 4)), (21, .pointer (some ⟨b4, 4, none⟩)), (22, .int .i64 1)] (by kernel_rfl) ?_
  refine RunR.enveq [(0, .slice A xs.length c), (1, .slice A2 ys.length c2), (2, .int .u32 n), (6, .pointer (some ⟨b3, 0, none⟩)), (7, .pointer (some ⟨b4, 0, none⟩)), (8, .int .i64 1), (11, .int .i64 1), (12, .bool true), (13, .int .i64 1), (14, .int .i64 1), (15, .int .i64 5), (16, .slice A xs.length c), (17, .int .i64 1), (18, .int .i64 4), (19, .slice (subBase A 4 c 1) zs14.length (c - 4)), (20, .int .u32 (leN zs6 4)), (21, .pointer (some ⟨b4, 4, none⟩)), (22, .int .i64 1)] (by rw [hl16]) ?_
  have hr20 : In .u8 zs14 := by rw [hz15]; exact (hx.drop _).take _
  refine RunR.step (dst := some 20) (op := .call { callee := .value (.func 73), args := #[.tmp 19], argTypes := #[22] }) (by kernel_rfl) (Step.call 73 [.slice (subBase A 4 c 1) zs14.length (c - 4)] (by kernel_rfl) (by kernel_rfl) [] [vw (subBase A 4 c 1) (nums .u8 zs14)] [blk b4 87 (nums .u32 (([1634760805, 857760878, 2036477234, 1797285236, 0, 0, 0, 0, 0, 0, 0, 0, 0, 0, 0, 0] : List Int).set 4 (leN zs6 4))), blk b3 87 (nums .u32 (List.replicate 16 (0 : Int))), vw A (nums .u8 xs), vw A2 (nums .u8 ys)] (w_Get32_spec (subBase A 4 c 1) (c - 4) zs14 zs14.length hr20 (by first | assumption | omega | (simp only [List.length_append, List.length_cons, List.length_nil, List.length_set, List.length_replicate, List.length_take, List.length_drop]; omega) | (simp only [fits] at *; omega) | (simp only [List.length_append, List.length_cons, List.length_nil, List.length_set, List.length_replicate, List.length_take, List.length_drop] at *; omega) | (simp; done) | decide) (by first | rfl | assumption | omega | (simp only [List.length_append, List.length_cons, List.length_nil, List.length_set, List.length_replicate, List.length_take, List.length_drop]; omega) | (simp; done))) [] (by kernel_rfl) ((Lend.nil _).tells 2 (vw A (nums .u8 xs)) (subBase A 4 c 1) (nums .u8 zs14) (by kernel_rfl) (hB18_t)) ?_)
  rintro _ _ ⟨rfl, rfl⟩
  refine RunR.sil hU [] 1 8 [0, 1, 2, 6, 7, 8, 11, 12, 13, 14, 15, 16, 17, 18, 19, 20, 21, 22] [(0, .slice A xs.length c), (1, .slice A2 ys.length c2), (2, .int .u32 n), (6, .pointer (some ⟨b3, 0, none⟩)), (7, .pointer (some ⟨b4, 0, none⟩)), (8, .int .i64 1), (11, .int .i64 1), (12, .bool true), (13, .int .i64 1), (14, .int .i64 1), (15, .int .i64 5), (16, .slice A xs.length c), (17, .int .i64 1), (18, .int .i64 4), (19, .slice (subBase A 4 c 1) zs14.length (c - 4)), (20, .int .u32 (leN zs14 4)), (21, .pointer (some ⟨b4, 5, none⟩)), (22, .int .i64 1)] ((0 ≤ (5 : Int) ∧ (5 : Int) < ((16 : Nat) : Int)) ∧ True) rfl (by kernel_rfl) ⟨(by omega), trivial⟩ ?_
  refine RunR.step (dst := none) (op := .store 23 (.tmp 21) (.tmp 20)) (by kernel_rfl) (Step.store_blknum hU 0 b4 (5) 87 5 .u32 (([1634760805, 857760878, 2036477234, 1797285236, 0, 0, 0, 0, 0, 0, 0, 0, 0, 0, 0, 0] : List Int).set 4 (leN zs6 4)) (leN zs14 4) (by kernel_rfl) (by kernel_rfl) (by kernel_rfl) rfl (by omega) (by omega) ?_)
  have hl21 : ((([1634760805, 857760878, 2036477234, 1797285236, 0, 0, 0, 0, 0, 0, 0, 0, 0, 0, 0, 0] : List Int).set 4 (leN zs6 4)).set 5 (leN zs14 4)).length = (([1634760805, 857760878, 2036477234, 1797285236, 0, 0, 0, 0, 0, 0, 0, 0, 0, 0, 0, 0] : List Int).set 4 (leN zs6 4)).length := List.length_set
  refine RunR.done (by kernel_rfl) ?_
  refine kblock_n ?_
  refine kseq_n ?_
  refine RunC.region ?_
  refine RunR.sil hU [0] 2 2 [0, 1, 2, 6, 7, 8, 11, 12, 13, 14, 15, 16, 17, 18, 19, 20, 21, 22] [(0, .slice A xs.length c), (1, .slice A2 ys.length c2), (2, .int .u32 n), (6, .pointer (some ⟨b3, 0, none⟩)), (7, .pointer (some ⟨b4, 0, none⟩)), (8, .int .i64 1), (11, .int .i64 2), (12, .bool true), (13, .int .i64 1), (14, .int .i64 1), (15, .int .i64 5), (16, .slice A xs.length c), (17, .int .i64 1), (18, .int .i64 4), (19, .slice (subBase A 4 c 1) zs14.length (c - 4)), (20, .int .u32 (leN zs14 4)), (21, .pointer (some ⟨b4, 5, none⟩)), (22, .int .i64 2)] ((-9223372036854775808 ≤ ((1 : Int) + 1) ∧ ((1 : Int) + 1) < 9223372036854775808) ∧ (True) ∧ True) rfl (by kernel_rfl) ⟨(by decide), trivial, trivial⟩ ?_
  refine RunR.done (by kernel_rfl) ?_
  refine kround_n ?_
  refine RunC.seq ?_
  refine RunC.region ?_
  refine RunR.sil hU [] 1 1 [0, 1, 2, 6, 7, 8, 11, 12, 13, 14, 15, 16, 17, 18, 19, 20, 21, 22] [(0, .slice A xs.length c), (1, .slice A2 ys.length c2), (2, .int .u32 n), (6, .pointer (some ⟨b3, 0, none⟩)), (7, .pointer (some ⟨b4, 0, none⟩)), (8, .int .i64 1), (11, .int .i64 2), (12, .bool true), (13, .int .i64 1), (14, .int .i64 1), (15, .int .i64 5), (16, .slice A xs.length c), (17, .int .i64 1), (18, .int .i64 4), (19, .slice (subBase A 4 c 1) zs14.length (c - 4)), (20, .int .u32 (leN zs14 4)), (21, .pointer (some ⟨b4, 5, none⟩)), (22, .int .i64 2)] ((True) ∧ True) rfl (by kernel_rfl) ⟨trivial, trivial⟩ ?_
  refine RunR.done (by kernel_rfl) ?_
  refine kseq_n ?_
  refine RunC.seq ?_
  refine RunC.cond (b := true) (by kernel_rfl) (fun _ => ?_) (fun h => by cases h)
  refine RunC.skip ?_
  refine kseq_n ?_
  refine RunC.seq ?_
  refine RunC.block ?_
  refine RunC.seq ?_
  refine RunC.region ?_
  refine RunR.sil hU [] 2 2 [0, 1, 2, 6, 7, 8, 11, 12, 13, 14, 15, 16, 17, 18, 19, 20, 21, 22] [(0, .slice A xs.length c), (1, .slice A2 ys.length c2), (2, .int .u32 n), (6, .pointer (some ⟨b3, 0, none⟩)), (7, .pointer (some ⟨b4, 0, none⟩)), (8, .int .i64 2), (11, .int .i64 2), (12, .bool true), (13, .int .i64 2), (14, .int .i64 1), (15, .int .i64 5), (16, .slice A xs.length c), (17, .int .i64 1), (18, .int .i64 4), (19, .slice (subBase A 4 c 1) zs14.length (c - 4)), (20, .int .u32 (leN zs14 4)), (21, .pointer (some ⟨b4, 5, none⟩)), (22, .int .i64 2)] ((True) ∧ (True) ∧ True) rfl (by kernel_rfl) ⟨trivial, trivial, trivial⟩ ?_
  refine RunR.done (by kernel_rfl) ?_
  refine kseq_n ?_
  refine RunC.region ?_
  refine RunR.sil hU [1, 4] 6 6 [0, 1, 2, 6, 7, 8, 11, 12, 13, 14, 15, 16, 17, 18, 19, 20, 21, 22] [(0, .slice A xs.length c), (1, .slice A2 ys.length c2), (2, .int .u32 n), (6, .pointer (some ⟨b3, 0, none⟩)), (7, .pointer (some ⟨b4, 0, none⟩)), (8, .int .i64 2), (11, .int .i64 2), (12, .bool true), (13, .int .i64 2), (14, .int .i64 2), (15, .int .i64 6), (16, .slice A xs.length c), (17, .int .i64 2), (18, .int .i64 8), (19, .slice (subBase A 8 c 1) (xs.length - 8) (c - 8)), (20, .int .u32 (leN zs14 4)), (21, .pointer (some ⟨b4, 5, none⟩)), (22, .int .i64 2)] ((True) ∧ (-9223372036854775808 ≤ ((4 : Int) + 2) ∧ ((4 : Int) + 2) < 9223372036854775808) ∧ (True) ∧ (True) ∧ (-9223372036854775808 ≤ ((4 : Int) * 2) ∧ ((4 : Int) * 2) < 9223372036854775808) ∧ (0 ≤ (8 : Int) ∧ (8 : Int) ≤ ((xs.length : Nat) : Int)) ∧ True) rfl (by kernel_rfl) ⟨trivial, (by decide), trivial, trivial, (by decide), (by omega), trivial⟩ ?_
  obtain ⟨zs22, hz23⟩ : ∃ z : List Int, z = (xs.drop 8).take (xs.length - 8) := ⟨_, rfl⟩
  have hl24 : zs22.length = xs.length - 8 := by rw [hz23, List.length_take, List.length_drop]; omega
  have hB26_t : Tells (vw A (nums .u8 xs)) (subBase A 8 c 1) (nums .u8 zs22) := by rw [hz23]; exact tells_sub_nums (tells_vw _ _) _ _ _ (by omega) (by omega)
  have hA27 : 0 < zs22.length → Option.isSome (subBase A 8 c 1) = true := fun h => part_some (hA1 (by omega)) _ _ _
  refine RunR.env [0, 1, 2, 6, 7, 8, 11, 12, 13, 14, 15, 16, 17, 18, 19, 20, 21, 22] [(0, .slice A xs.length c), (1, .slice A2 ys.length c2), (2, .int .u32 n), (6, .pointer (some ⟨b3, 0, none⟩)), (7, .pointer (some ⟨b4, 0, none⟩)), (8, .int .i64 2), (11, .int .i64 2), (12, .bool true), (13, .int .i64 2), (14, .int .i64 2), (15, .int .i64 6), (16, .slice A xs.length c), (17, .int .i64 2), (18, .int .i64 8), (19, .slice (subBase A 8 c 1) (xs.length - 8) (c - 8)), (20, .int .u32 (leN zs14 4)), (21, .pointer (some ⟨b4, 5, none⟩)), (22, .int .i64 2)] (by kernel_rfl) ?_
  refine RunR.enveq [(0, .slice A xs.length c), (1, .slice A2 ys.length c2), (2, .int .u32 n), (6, .pointer (some ⟨b3, 0, none⟩)), (7, .pointer (some ⟨b4, 0, none⟩)), (8, .int .i64 2), (11, .int .i64 2), (12, .bool true), (13, .int .i64 2), (14, .int .i64 2), (15, .int .i64 6), (16, .slice A xs.length c), (17, .int .i64 2), (18, .int .i64 8), (19, .slice (subBase A 8 c 1) zs22.length (c - 8)), (20, .int .u32 (leN zs14 4)), (21, .pointer (some ⟨b4, 5, none⟩)), (22, .int .i64 2)] (by rw [hl24]) ?_
  have hr28 : In .u8 zs22 := by rw [hz23]; exact (hx.drop _).take _
  refine RunR.step (dst := some 20) (op := .call { callee := .value (.func 73), args := #[.tmp 19], argTypes := #[22] }) (by kernel_rfl) (Step.call 73 [.slice (subBase A 8 c 1) zs22.length (c - 8)] (by kernel_rfl) (by kernel_rfl) [] [vw (subBase A 8 c 1) (nums .u8 zs22)] [blk b4 87 (nums .u32 ((([1634760805, 857760878, 2036477234, 1797285236, 0, 0, 0, 0, 0, 0, 0, 0, 0, 0, 0, 0] : List Int).set 4 (leN zs6 4)).set 5 (leN zs14 4))), blk b3 87 (nums .u32 (List.replicate 16 (0 : Int))), vw A (nums .u8 xs), vw A2 (nums .u8 ys)] (w_Get32_spec (subBase A 8 c 1) (c - 8) zs22 zs22.length hr28 (by first | assumption | omega | (simp only [List.length_append, List.length_cons, List.length_nil, List.length_set, List.length_replicate, List.length_take, List.length_drop]; omega) | (simp only [fits] at *; omega) | (simp only [List.length_append, List.length_cons, List.length_nil, List.length_set, List.length_replicate, List.length_take, List.length_drop] at *; omega) | (simp; done) | decide) (by first | rfl | assumption | omega | (simp only [List.length_append, List.length_cons, List.length_nil, List.length_set, List.length_replicate, List.length_take, List.length_drop]; omega) | (simp; done))) [] (by kernel_rfl) ((Lend.nil _).tells 2 (vw A (nums .u8 xs)) (subBase A 8 c 1) (nums .u8 zs22) (by kernel_rfl) (hB26_t)) ?_)
  rintro _ _ ⟨rfl, rfl⟩
  refine RunR.sil hU [] 1 8 [0, 1, 2, 6, 7, 8, 11, 12, 13, 14, 15, 16, 17, 18, 19, 20, 21, 22] [(0, .slice A xs.length c), (1, .slice A2 ys.length c2), (2, .int .u32 n), (6, .pointer (some ⟨b3, 0, none⟩)), (7, .pointer (some ⟨b4, 0, none⟩)), (8, .int .i64 2), (11, .int .i64 2), (12, .bool true), (13, .int .i64 2), (14, .int .i64 2), (15, .int .i64 6), (16, .slice A xs.length c), (17, .int .i64 2), (18, .int .i64 8), (19, .slice (subBase A 8 c 1) zs22.length (c - 8)), (20, .int .u32 (leN zs22 4)), (21, .pointer (some ⟨b4, 6, none⟩)), (22, .int .i64 2)] ((0 ≤ (6 : Int) ∧ (6 : Int) < ((16 : Nat) : Int)) ∧ True) rfl (by kernel_rfl) ⟨(by omega), trivial⟩ ?_
  refine RunR.step (dst := none) (op := .store 23 (.tmp 21) (.tmp 20)) (by kernel_rfl) (Step.store_blknum hU 0 b4 (6) 87 6 .u32 ((([1634760805, 857760878, 2036477234, 1797285236, 0, 0, 0, 0, 0, 0, 0, 0, 0, 0, 0, 0] : List Int).set 4 (leN zs6 4)).set 5 (leN zs14 4)) (leN zs22 4) (by kernel_rfl) (by kernel_rfl) (by kernel_rfl) rfl (by omega) (by omega) ?_)
  have hl29 : (((([1634760805, 857760878, 2036477234, 1797285236, 0, 0, 0, 0, 0, 0, 0, 0, 0, 0, 0, 0] : List Int).set 4 (leN zs6 4)).set 5 (leN zs14 4)).set 6 (leN zs22 4)).length = ((([1634760805, 857760878, 2036477234, 1797285236, 0, 0, 0, 0, 0, 0, 0, 0, 0, 0, 0, 0] : List Int).set 4 (leN zs6 4)).set 5 (leN zs14 4)).length := List.length_set
  refine RunR.done (by kernel_rfl) ?_
  refine kblock_n ?_
  refine kseq_n ?_
  refine RunC.region ?_
  refine RunR.sil hU [0] 2 2 [0, 1, 2, 6, 7, 8, 11, 12, 13, 14, 15, 16, 17, 18, 19, 20, 21, 22] [(0, .slice A xs.length c), (1, .slice A2 ys.length c2), (2, .int .u32 n), (6, .pointer (some ⟨b3, 0, none⟩)), (7, .pointer (some ⟨b4, 0, none⟩)), (8, .int .i64 2), (11, .int .i64 3), (12, .bool true), (13, .int .i64 2), (14, .int .i64 2), (15, .int .i64 6), (16, .slice A xs.length c), (17, .int .i64 2), (18, .int .i64 8), (19, .slice (subBase A 8 c 1) zs22.length (c - 8)), (20, .int .u32 (leN zs22 4)), (21, .pointer (some ⟨b4, 6, none⟩)), (22, .int .i64 3)] ((-9223372036854775808 ≤ ((2 : Int) + 1) ∧ ((2 : Int) + 1) < 9223372036854775808) ∧ (True) ∧ True) rfl (by kernel_rfl) ⟨(by decide), trivial, trivial⟩ ?_
  refine RunR.done (by kernel_rfl) ?_
  refine kround_n ?_
  refine RunC.seq ?_
  refine RunC.region ?_
  refine RunR.sil hU [] 1 1 [0, 1, 2, 6, 7, 8, 11, 12, 13, 14, 15, 16, 17, 18, 19, 20, 21, 22] [(0, .slice A xs.length c), (1, .slice A2 ys.length c2), (2, .int .u32 n), (6, .pointer (some ⟨b3, 0, none⟩)), (7, .pointer (some ⟨b4, 0, none⟩)), (8, .int .i64 2), (11, .int .i64 3), (12, .bool true), (13, .int .i64 2), (14, .int .i64 2), (15, .int .i64 6), (16, .slice A xs.length c), (17, .int .i64 2), (18, .int .i64 8), (19, .slice (subBase A 8 c 1) zs22.length (c - 8)), (20, .int .u32 (leN zs22 4)), (21, .pointer (some ⟨b4, 6, none⟩)), (22, .int .i64 3)] ((True) ∧ True) rfl (by kernel_rfl) ⟨trivial, trivial⟩ ?_
  refine RunR.done (by kernel_rfl) ?_
  refine kseq_n ?_
  refine RunC.seq ?_
  refine RunC.cond (b := true) (by kernel_rfl) (fun _ => ?_) (fun h => by cases h)
  refine RunC.skip ?_
  refine kseq_n ?_
  refine RunC.seq ?_
  refine RunC.block ?_
  refine RunC.seq ?_
  refine RunC.region ?_
  refine RunR.sil hU [] 2 2 [0, 1, 2, 6, 7, 8, 11, 12, 13, 14, 15, 16, 17, 18, 19, 20, 21, 22] [(0, .slice A xs.length c), (1, .slice A2 ys.length c2), (2, .int .u32 n), (6, .pointer (some ⟨b3, 0, none⟩)), (7, .pointer (some ⟨b4, 0, none⟩)), (8, .int .i64 3), (11, .int .i64 3), (12, .bool true), (13, .int .i64 3), (14, .int .i64 2), (15, .int .i64 6), (16, .slice A xs.length c), (17, .int .i64 2), (18, .int .i64 8), (19, .slice (subBase A 8 c 1) zs22.length (c - 8)), (20, .int .u32 (leN zs22 4)), (21, .pointer (some ⟨b4, 6, none⟩)), (22, .int .i64 3)] ((True) ∧ (True) ∧ True) rfl (by kernel_rfl) ⟨trivial, trivial, trivial⟩ ?_
  refine RunR.done (by kernel_rfl) ?_
  refine kseq_n ?_
  refine RunC.region ?_
  refine RunR.sil hU [1, 4] 6 6 [0, 1, 2, 6, 7, 8, 11, 12, 13, 14, 15, 16, 17, 18, 19, 20, 21, 22] [(0, .slice A xs.length c), (1, .slice A2 ys.length c2), (2, .int .u32 n), (6, .pointer (some ⟨b3, 0, none⟩)), (7, .pointer (some ⟨b4, 0, none⟩)), (8, .int .i64 3), (11, .int .i64 3), (12, .bool true), (13, .int .i64 3), (14, .int .i64 3), (15, .int .i64 7), (16, .slice A xs.length c), (17, .int .i64 3), (18, .int .i64 12), (19, .slice (subBase A 12 c 1) (xs.length - 12) (c - 12)), (20, .int .u32 (leN zs22 4)), (21, .pointer (some ⟨b4, 6, none⟩)), (22, .int .i64 3)] ((True) ∧ (-9223372036854775808 ≤ ((4 : Int) + 3) ∧ ((4 : Int) + 3) < 9223372036854775808) ∧ (True) ∧ (True) ∧ (-9223372036854775808 ≤ ((4 : Int) * 3) ∧ ((4 : Int) * 3) < 9223372036854775808) ∧ (0 ≤ (12 : Int) ∧ (12 : Int) ≤ ((xs.length : Nat) : Int)) ∧ True) rfl (by kernel_rfl) ⟨trivial, (by decide), trivial, trivial, (by decide), (by omega), trivial⟩ ?_
  obtain ⟨zs30, hz31⟩ : ∃ z : List Int, z = (xs.drop 12).take (xs.length - 12) := ⟨_, rfl⟩
  have hl32 : zs30.length = xs.length - 12 := by rw [hz31, List.length_take, List.length_drop]; omega
  have hB34_t : Tells (vw A (nums .u8 xs)) (subBase A 12 c 1) (nums .u8 zs30) := by rw [hz31]; exact tells_sub_nums (tells_vw _ _) _ _ _ (by omega) (by omega)
  have hA35 : 0 < zs30.length → Option.isSome (subBase A 12 c 1) = true := fun h => part_some (hA1 (by omega)) _ _ _
  refine RunR.env [0, 1, 2, 6, 7, 8, 11, 12, 13, 14, 15, 16, 17, 18, 19, 20, 21, 22] [(0, .slice A xs.length c), (1, .slice A2 ys.length c2), (2, .int .u32 n), (6, .pointer (some ⟨b3, 0, none⟩)), (7, .pointer (some ⟨b4, 0, none⟩)), (8, .int .i64 3), (11, .int .i64 3), (12, .bool true), (13, .int .i64 3), (14, .int .i64 3), (15, .int .i64 7), (16, .slice A xs.length c), (17, .int .i64 3), (18, .int .i64 12), (19, .slice (subBase A 12 c 1) (xs.length - 12) (c - 12)), (20, .int .u32 (leN zs22 4)), (21, .pointer (some ⟨b4, 6, none⟩)), (22, .int .i64 3)] (by kernel_rfl) ?_
  refine RunR.enveq [(0, .slice A xs.length c), (1, .slice A2 ys.length c2), (2, .int .u32 n), (6, .pointer (some ⟨b3, 0, none⟩)), (7, .pointer (some ⟨b4, 0, none⟩)), (8, .int .i64 3), (11, .int .i64 3), (12, .bool true), (13, .int .i64 3), (14, .int .i64 3), (15, .int .i64 7), (16, .slice A xs.length c), (17, .int .i64 3), (18, .int .i64 12), (19, .slice (subBase A 12 c 1) zs30.length (c - 12)), (20, .int .u32 (leN zs22 4)), (21, .pointer (some ⟨b4, 6, none⟩)), (22, .int .i64 3)] (by rw [hl32]) ?_
  have hr36 : In .u8 zs30 := by rw [hz31]; exact (hx.drop _).take _
  refine RunR.step (dst := some 20) (op := .call { callee := .value (.func 73), args := #[.tmp 19], argTypes := #[22] }) (by kernel_rfl) (Step.call 73 [.slice (subBase A 12 c 1) zs30.length (c - 12)] (by kernel_rfl) (by kernel_rfl) [] [vw (subBase A 12 c 1) (nums .u8 zs30)] [blk b4 87 (nums .u32 (((([1634760805, 857760878, 2036477234, 1797285236, 0, 0, 0, 0, 0, 0, 0, 0, 0, 0, 0, 0] : List Int).set 4 (leN zs6 4)).set 5 (leN zs14 4)).set 6 (leN zs22 4))), blk b3 87 (nums .u32 (List.replicate 16 (0 : Int))), vw A (nums .u8 xs), vw A2 (nums .u8 ys)] (w_Get32_spec (subBase A 12 c 1) (c - 12) zs30 zs30.length hr36 (by first | assumption | omega | (simp only [List.length_append, List.length_cons, List.length_nil, List.length_set, List.length_replicate, List.length_take, List.length_drop]; omega) | (simp only [fits] at *; omega) | (simp only [List.length_append, List.length_cons, List.length_nil, List.length_set, List.length_replicate, List.length_take, List.length_drop] at *; omega) | (simp; done) | decide) (by first | rfl | assumption | omega | (simp only [List.length_append, List.length_cons, List.length_nil, List.length_set, List.length_replicate, List.length_take, List.length_drop]; omega) | (simp; done))) [] (by kernel_rfl) ((Lend.nil _).tells 2 (vw A (nums .u8 xs)) (subBase A 12 c 1) (nums .u8 zs30) (by kernel_rfl) (hB34_t)) ?_)
  rintro _ _ ⟨rfl, rfl⟩
  refine RunR.sil hU [] 1 8 [0, 1, 2, 6, 7, 8, 11, 12, 13, 14, 15, 16, 17, 18, 19, 20, 21, 22] [(0, .slice A xs.length c), (1, .slice A2 ys.length c2), (2, .int .u32 n), (6, .pointer (some ⟨b3, 0, none⟩)), (7, .pointer (some ⟨b4, 0, none⟩)), (8, .int .i64 3), (11, .int .i64 3), (12, .bool true), (13, .int .i64 3), (14, .int .i64 3), (15, .int .i64 7), (16, .slice A xs.length c), (17, .int .i64 3), (18, .int .i64 12), (19, .slice (subBase A 12 c 1) zs30.length (c - 12)), (20, .int .u32 (leN zs30 4)), (21, .pointer (some ⟨b4, 7, none⟩)), (22, .int .i64 3)] ((0 ≤ (7 : Int) ∧ (7 : Int) < ((16 : Nat) : Int)) ∧ True) rfl (by kernel_rfl) ⟨(by omega), trivial⟩ ?_
  refine RunR.step (dst := none) (op := .store 23 (.tmp 21) (.tmp 20)) (by kernel_rfl) (Step.store_blknum hU 0 b4 (7) 87 7 .u32 (((([1634760805, 857760878, 2036477234, 1797285236, 0, 0, 0, 0, 0, 0, 0, 0, 0, 0, 0, 0] : List Int).set 4 (leN zs6 4)).set 5 (leN zs14 4)).set 6 (leN zs22 4)) (leN zs30 4) (by kernel_rfl) (by kernel_rfl) (by kernel_rfl) rfl (by omega) (by omega) ?_)
  have hl37 : ((((([1634760805, 857760878, 2036477234, 1797285236, 0, 0, 0, 0, 0, 0, 0, 0, 0, 0, 0, 0] : List Int).set 4 (leN zs6 4)).set 5 (leN zs14 4)).set 6 (leN zs22 4)).set 7 (leN zs30 4)).length = (((([1634760805, 857760878, 2036477234, 1797285236, 0, 0, 0, 0, 0, 0, 0, 0, 0, 0, 0, 0] : List Int).set 4 (leN zs6 4)).set 5 (leN zs14 4)).set 6 (leN zs22 4)).length := List.length_set
  refine RunR.done (by kernel_rfl) ?_
  refine kblock_n ?_
  refine kseq_n ?_
  refine RunC.region ?_
  refine RunR.sil hU [0] 2 2 [0, 1, 2, 6, 7, 8, 11, 12, 13, 14, 15, 16, 17, 18, 19, 20, 21, 22] [(0, .slice A xs.length c), (1, .slice A2 ys.length c2), (2, .int .u32 n), (6, .pointer (some ⟨b3, 0, none⟩)), (7, .pointer (some ⟨b4, 0, none⟩)), (8, .int .i64 3), (11, .int .i64 4), (12, .bool true), (13, .int .i64 3), (14, .int .i64 3), (15, .int .i64 7), (16, .slice A xs.length c), (17, .int .i64 3), (18, .int .i64 12), (19, .slice (subBase A 12 c 1) zs30.length (c - 12)), (20, .int .u32 (leN zs30 4)), (21, .pointer (some ⟨b4, 7, none⟩)), (22, .int .i64 4)] ((-9223372036854775808 ≤ ((3 : Int) + 1) ∧ ((3 : Int) + 1) < 9223372036854775808) ∧ (True) ∧ True) rfl (by kernel_rfl) ⟨(by decide), trivial, trivial⟩ ?_
  refine RunR.done (by kernel_rfl) ?_
  refine kround_n ?_
  refine RunC.seq ?_
  refine RunC.region ?_
  refine RunR.sil hU [] 1 1 [0, 1, 2, 6, 7, 8, 11, 12, 13, 14, 15, 16, 17, 18, 19, 20, 21, 22] [(0, .slice A xs.length c), (1, .slice A2 ys.length c2), (2, .int .u32 n), (6, .pointer (some ⟨b3, 0, none⟩)), (7, .pointer (some ⟨b4, 0, none⟩)), (8, .int .i64 3), (11, .int .i64 4), (12, .bool true), (13, .int .i64 3), (14, .int .i64 3), (15, .int .i64 7), (16, .slice A xs.length c), (17, .int .i64 3), (18, .int .i64 12), (19, .slice (subBase A 12 c 1) zs30.length (c - 12)), (20, .int .u32 (leN zs30 4)), (21, .pointer (some ⟨b4, 7, none⟩)), (22, .int .i64 4)] ((True) ∧ True) rfl (by kernel_rfl) ⟨trivial, trivial⟩ ?_
  refine RunR.done (by kernel_rfl) ?_
  refine kseq_n ?_
  refine RunC.seq ?_
  refine RunC.cond (b := true) (by kernel_rfl) (fun _ => ?_) (fun h => by cases h)
  refine RunC.skip ?_
  refine kseq_n ?_
  refine RunC.seq ?_
  refine RunC.block ?_
  refine RunC.seq ?_
  refine RunC.region ?_
  refine RunR.sil hU [] 2 2 [0, 1, 2, 6, 7, 8, 11, 12, 13, 14, 15, 16, 17, 18, 19, 20, 21, 22] [(0, .slice A xs.length c), (1, .slice A2 ys.length c2), (2, .int .u32 n), (6, .pointer (some ⟨b3, 0, none⟩)), (7, .pointer (some ⟨b4, 0, none⟩)), (8, .int .i64 4), (11, .int .i64 4), (12, .bool true), (13, .int .i64 4), (14, .int .i64 3), (15, .int .i64 7), (16, .slice A xs.length c), (17, .int .i64 3), (18, .int .i64 12), (19, .slice (subBase A 12 c 1) zs30.length (c - 12)), (20, .int .u32 (leN zs30 4)), (21, .pointer (some ⟨b4, 7, none⟩)), (22, .int .i64 4)] ((True) ∧ (True) ∧ True) rfl (by kernel_rfl) ⟨trivial, trivial, trivial⟩ ?_
  refine RunR.done (by kernel_rfl) ?_
  refine kseq_n ?_
  refine RunC.region ?_
  refine RunR.sil hU [1, 4] 6 6 [0, 1, 2, 6, 7, 8, 11, 12, 13, 14, 15, 16, 17, 18, 19, 20, 21, 22] [(0, .slice A xs.length c), (1, .slice A2 ys.length c2), (2, .int .u32 n), (6, .pointer (some ⟨b3, 0, none⟩)), (7, .pointer (some ⟨b4, 0, none⟩)), (8, .int .i64 4), (11, .int .i64 4), (12, .bool true), (13, .int .i64 4), (14, .int .i64 4), (15, .int .i64 8), (16, .slice A xs.length c), (17, .int .i64 4), (18, .int .i64 16), (19, .slice (subBase A 16 c 1) (xs.length - 16) (c - 16)), (20, .int .u32 (leN zs30 4)), (21, .pointer (some ⟨b4, 7, none⟩)), (22, .int .i64 4)] ((True) ∧ (-9223372036854775808 ≤ ((4 : Int) + 4) ∧ ((4 : Int) + 4) < 9223372036854775808) ∧ (True) ∧ (True) ∧ (-9223372036854775808 ≤ ((4 : Int) * 4) ∧ ((4 : Int) * 4) < 9223372036854775808) ∧ (0 ≤ (16 : Int) ∧ (16 : Int) ≤ ((xs.length : Nat) : Int)) ∧ True) rfl (by kernel_rfl) ⟨trivial, (by decide), trivial, trivial, (by decide), (by omega), trivial⟩ ?_
  obtain ⟨zs38, hz39⟩ : ∃ z : List Int, z = (xs.drop 16).take (xs.length - 16) := ⟨_, rfl⟩
  have hl40 : zs38.length = xs.length - 16 := by rw [hz39, List.length_take, List.length_drop]; omega
  have hB42_t : Tells (vw A (nums .u8 xs)) (subBase A 16 c 1) (nums .u8 zs38) := by rw [hz39]; exact tells_sub_nums (tells_vw _ _) _ _ _ (by omega) (by omega)
  have hA43 : 0 < zs38.length → Option.isSome (subBase A 16 c 1) = true := fun h => part_some (hA1 (by omega)) _ _ _
  refine RunR.env [0, 1, 2, 6, 7, 8, 11, 12, 13, 14, 15, 16, 17, 18, 19, 20, 21, 22] [(0, .slice A xs.length c), (1, .slice A2 ys.length c2), (2, .int .u32 n), (6, .pointer (some ⟨b3, 0, none⟩)), (7, .pointer (some ⟨b4, 0, none⟩)), (8, .int .i64 4), (11, .int .i64 4), (12, .bool true), (13, .int .i64 4), (14, .int .i64 4), (15, .int .i64 8), (16, .slice A xs.length c), (17, .int .i64 4), (18, .int .i64 16), (19, .slice (subBase A 16 c 1) (xs.length - 16) (c - 16)), (20, .int .u32 (leN zs30 4)), (21, .pointer (some ⟨b4, 7, none⟩)), (22, .int .i64 4)] (by kernel_rfl) ?_
  refine RunR.enveq [(0, .slice A xs.length c), (1, .slice A2 ys.length c2), (2, .int .u32 n), (6, .pointer (some ⟨b3, 0, none⟩)), (7, .pointer (some ⟨b4, 0, none⟩)), (8, .int .i64 4), (11, .int .i64 4), (12, .bool true), (13, .int .i64 4), (14, .int .i64 4), (15, .int .i64 8), (16, .slice A xs.length c), (17, .int .i64 4), (18, .int .i64 16), (19, .slice (subBase A 16 c 1) zs38.length (c - 16)), (20, .int .u32 (leN zs30 4)), (21, .pointer (some ⟨b4, 7, none⟩)), (22, .int .i64 4)] (by rw [hl40]) ?_
  have hr44 : In .u8 zs38 := by rw [hz39]; exact (hx.drop _).take _
  refine RunR.step (dst := some 20) (op := .call { callee := .value (.func 73), args := #[.tmp 19], argTypes := #[22] }) (by kernel_rfl) (Step.call 73 [.slice (subBase A 16 c 1) zs38.length (c - 16)] (by kernel_rfl) (by kernel_rfl) [] [vw (subBase A 16 c 1) (nums .u8 zs38)] [blk b4 87 (nums .u32 ((((([1634760805, 857760878, 2036477234, 1797285236, 0, 0, 0, 0, 0, 0, 0, 0, 0, 0, 0, 0] : List Int).set 4 (leN zs6 4)).set 5 (leN zs14 4)).set 6 (leN zs22 4)).set 7 (leN zs30 4))), blk b3 87 (nums .u32 (List.replicate 16 (0 : Int))), vw A (nums .u8 xs), vw A2 (nums .u8 ys)] (w_Get32_spec (subBase A 16 c 1) (c - 16) zs38 zs38.length hr44 (by first | assumption | omega | (simp only [List.length_append, List.length_cons, List.length_nil, List.length_set, List.length_replicate, List.length_take, List.length_drop]; omega) | (simp only [fits] at *; omega) | (simp only [List.length_append, List.length_cons, List.length_nil, List.length_set, List.length_replicate, List.length_take, List.length_drop] at *; omega) | (simp; done) | decide) (by first | rfl | assumption | omega | (simp only [List.length_append, List.length_cons, List.length_nil, List.length_set, List.length_replicate, List.length_take, List.length_drop]; omega) | (simp; done))) [] (by kernel_rfl) ((Lend.nil _).tells 2 (vw A (nums .u8 xs)) (subBase A 16 c 1) (nums .u8 zs38) (by kernel_rfl) (hB42_t)) ?_)
  rintro _ _ ⟨rfl, rfl⟩
  refine RunR.sil hU [] 1 8 [0, 1, 2, 6, 7, 8, 11, 12, 13, 14, 15, 16, 17, 18, 19, 20, 21, 22] [(0, .slice A xs.length c), (1, .slice A2 ys.length c2), (2, .int .u32 n), (6, .pointer (some ⟨b3, 0, none⟩)), (7, .pointer (some ⟨b4, 0, none⟩)), (8, .int .i64 4), (11, .int .i64 4), (12, .bool true), (13, .int .i64 4), (14, .int .i64 4), (15, .int .i64 8), (16, .slice A xs.length c), (17, .int .i64 4), (18, .int .i64 16), (19, .slice (subBase A 16 c 1) zs38.length (c - 16)), (20, .int .u32 (leN zs38 4)), (21, .pointer (some ⟨b4, 8, none⟩)), (22, .int .i64 4)] ((0 ≤ (8 : Int) ∧ (8 : Int) < ((16 : Nat) : Int)) ∧ True) rfl (by kernel_rfl) ⟨(by omega), trivial⟩ ?_
  refine RunR.step (dst := none) (op := .store 23 (.tmp 21) (.tmp 20)) (by kernel_rfl) (Step.store_blknum hU 0 b4 (8) 87 8 .u32 ((((([1634760805, 857760878, 2036477234, 1797285236, 0, 0, 0, 0, 0, 0, 0, 0, 0, 0, 0, 0] : List Int).set 4 (leN zs6 4)).set 5 (leN zs14 4)).set 6 (leN zs22 4)).set 7 (leN zs30 4)) (leN zs38 4) (by kernel_rfl) (by kernel_rfl) (by kernel_rfl) rfl (by omega) (by omega) ?_)
  have hl45 : (((((([1634760805, 857760878, 2036477234, 1797285236, 0, 0, 0, 0, 0, 0, 0, 0, 0, 0, 0, 0] : List Int).set 4 (leN zs6 4)).set 5 (leN zs14 4)).set 6 (leN zs22 4)).set 7 (leN zs30 4)).set 8 (leN zs38 4)).length = ((((([1634760805, 857760878, 2036477234, 1797285236, 0, 0, 0, 0, 0, 0, 0, 0, 0, 0, 0, 0] : List Int).set 4 (leN zs6 4)).set 5 (leN zs14 4)).set 6 (leN zs22 4)).set 7 (leN zs30 4)).length := List.length_set
  refine RunR.done (by kernel_rfl) ?_
  refine kblock_n ?_
  refine kseq_n ?_
  refine RunC.region ?_
  refine RunR.sil hU [0] 2 2 [0, 1, 2, 6, 7, 8, 11, 12, 13, 14, 15, 16, 17, 18, 19, 20, 21, 22] [(0, .slice A xs.length c), (1, .slice A2 ys.length c2), (2, .int .u32 n), (6, .pointer (some ⟨b3, 0, none⟩)), (7, .pointer (some ⟨b4, 0, none⟩)), (8, .int .i64 4), (11, .int .i64 5), (12, .bool true), (13, .int .i64 4), (14, .int .i64 4), (15, .int .i64 8), (16, .slice A xs.length c), (17, .int .i64 4), (18, .int .i64 16), (19, .slice (subBase A 16 c 1) zs38.length (c - 16)), (20, .int .u32 (leN zs38 4)), (21, .pointer (some ⟨b4, 8, none⟩)), (22, .int .i64 5)] ((-9223372036854775808 ≤ ((4 : Int) + 1) ∧ ((4 : Int) + 1) < 9223372036854775808) ∧ (True) ∧ True) rfl (by kernel_rfl) ⟨(by decide), trivial, trivial⟩ ?_
  refine RunR.done (by kernel_rfl) ?_
  refine kround_n ?_
  refine RunC.seq ?_
  refine RunC.region ?_
  refine RunR.sil hU [] 1 1 [0, 1, 2, 6, 7, 8, 11, 12, 13, 14, 15, 16, 17, 18, 19, 20, 21, 22] [(0, .slice A xs.length c), (1, .slice A2 ys.length c2), (2, .int .u32 n), (6, .pointer (some ⟨b3, 0, none⟩)), (7, .pointer (some ⟨b4, 0, none⟩)), (8, .int .i64 4), (11, .int .i64 5), (12, .bool true), (13, .int .i64 4), (14, .int .i64 4), (15, .int .i64 8), (16, .slice A xs.length c), (17, .int .i64 4), (18, .int .i64 16), (19, .slice (subBase A 16 c 1) zs38.length (c - 16)), (20, .int .u32 (leN zs38 4)), (21, .pointer (some ⟨b4, 8, none⟩)), (22, .int .i64 5)] ((True) ∧ True) rfl (by kernel_rfl) ⟨trivial, trivial⟩ ?_
  refine RunR.done (by kernel_rfl) ?_
  refine kseq_n ?_
  refine RunC.seq ?_
  refine RunC.cond (b := true) (by kernel_rfl) (fun _ => ?_) (fun h => by cases h)
  refine RunC.skip ?_
  refine kseq_n ?_
  refine RunC.seq ?_
  refine RunC.block ?_
  refine RunC.seq ?_
  refine RunC.region ?_
  refine RunR.sil hU [] 2 2 [0, 1, 2, 6, 7, 8, 11, 12, 13, 14, 15, 16, 17, 18, 19, 20, 21, 22] [(0, .slice A xs.length c), (1, .slice A2 ys.length c2), (2, .int .u32 n), (6, .pointer (some ⟨b3, 0, none⟩)), (7, .pointer (some ⟨b4, 0, none⟩)), (8, .int .i64 5), (11, .int .i64 5), (12, .bool true), (13, .int .i64 5), (14, .int .i64 4), (15, .int .i64 8), (16, .slice A xs.length c), (17, .int .i64 4), (18, .int .i64 16), (19, .slice (subBase A 16 c 1) zs38.length (c - 16)), (20, .int .u32 (leN zs38 4)), (21, .pointer (some ⟨b4, 8, none⟩)), (22, .int .i64 5)] ((True) ∧ (True) ∧ True) rfl (by kernel_rfl) ⟨trivial, trivial, trivial⟩ ?_
  refine RunR.done (by kernel_rfl) ?_
  refine kseq_n ?_
  refine RunC.region ?_
  refine RunR.sil hU [1, 4] 6 6 [0, 1, 2, 6, 7, 8, 11, 12, 13, 14, 15, 16, 17, 18, 19, 20, 21, 22] [(0, .slice A xs.length c), (1, .slice A2 ys.length c2), (2, .int .u32 n), (6, .pointer (some ⟨b3, 0, none⟩)), (7, .pointer (some ⟨b4, 0, none⟩)), (8, .int .i64 5), (11, .int .i64 5), (12, .bool true), (13, .int .i64 5), (14, .int .i64 5), (15, .int .i64 9), (16, .slice A xs.length c), (17, .int .i64 5), (18, .int .i64 20), (19, .slice (subBase A 20 c 1) (xs.length - 20) (c - 20)), (20, .int .u32 (leN zs38 4)), (21, .pointer (some ⟨b4, 8, none⟩)), (22, .int .i64 5)] ((True) ∧ (-9223372036854775808 ≤ ((4 : Int) + 5) ∧ ((4 : Int) + 5) < 9223372036854775808) ∧ (True) ∧ (True) ∧ (-9223372036854775808 ≤ ((4 : Int) * 5) ∧ ((4 : Int) * 5) < 9223372036854775808) ∧ (0 ≤ (20 : Int) ∧ (20 : Int) ≤ ((xs.length : Nat) : Int)) ∧ True) rfl (by kernel_rfl) ⟨trivial, (by decide), trivial, trivial, (by decide), (by omega), trivial⟩ ?_
  obtain ⟨zs46, hz47⟩ : ∃ z : List Int, z = (xs.drop 20).take (xs.length - 20) := ⟨_, rfl⟩
  have hl48 : zs46.length = xs.length - 20 := by rw [hz47, List.length_take, List.length_drop]; omega
  have hB50_t : Tells (vw A (nums .u8 xs)) (subBase A 20 c 1) (nums .u8 zs46) := by rw [hz47]; exact tells_sub_nums (tells_vw _ _) _ _ _ (by omega) (by omega)
  have hA51 : 0 < zs46.length → Option.isSome (subBase A 20 c 1) = true := fun h => part_some (hA1 (by omega)) _ _ _
  refine RunR.env [0, 1, 2, 6, 7, 8, 11, 12, 13, 14, 15, 16, 17, 18, 19, 20, 21, 22] [(0, .slice A xs.length c), (1, .slice A2 ys.length c2), (2, .int .u32 n), (6, .pointer (some ⟨b3, 0, none⟩)), (7, .pointer (some ⟨b4, 0, none⟩)), (8, .int .i64 5), (11, .int .i64 5), (12, .bool true), (13, .int .i64 5), (14, .int .i64 5), (15, .int .i64 9), (16, .slice A xs.length c), (17, .int .i64 5), (18, .int .i64 20), (19, .slice (subBase A 20 c 1) (xs.length - 20) (c - 20)), (20, .int .u32 (leN zs38 4)), (21, .pointer (some ⟨b4, 8, none⟩)), (22, .int .i64 5)] (by kernel_rfl) ?_
  refine RunR.enveq [(0, .slice A xs.length c), (1, .slice A2 ys.length c2), (2, .int .u32 n), (6, .pointer (some ⟨b3, 0, none⟩)), (7, .pointer (some ⟨b4, 0, none⟩)), (8, .int .i64 5), (11, .int .i64 5), (12, .bool true), (13, .int .i64 5), (14, .int .i64 5), (15, .int .i64 9), (16, .slice A xs.length c), (17, .int .i64 5), (18, .int .i64 20), (19, .slice (subBase A 20 c 1) zs46.length (c - 20)), (20, .int .u32 (leN zs38 4)), (21, .pointer (some ⟨b4, 8, none⟩)), (22, .int .i64 5)] (by rw [hl48]) ?_
  have hr52 : In .u8 zs46 := by rw [hz47]; exact (hx.drop _).take _
  refine RunR.step (dst := some 20) (op := .call { callee := .value (.func 73), args := #[.tmp 19], argTypes := #[22] }) (by kernel_rfl) (Step.call 73 [.slice (subBase A 20 c 1) zs46.length (c - 20)] (by kernel_rfl) (by kernel_rfl) [] [vw (subBase A 20 c 1) (nums .u8 zs46)] [blk b4 87 (nums .u32 (((((([1634760805, 857760878, 2036477234, 1797285236, 0, 0, 0, 0, 0, 0, 0, 0, 0, 0, 0, 0] : List Int).set 4 (leN zs6 4)).set 5 (leN zs14 4)).set 6 (leN zs22 4)).set 7 (leN zs30 4)).set 8 (leN zs38 4))), blk b3 87 (nums .u32 (List.replicate 16 (0 : Int))), vw A (nums .u8 xs), vw A2 (nums .u8 ys)] (w_Get32_spec (subBase A 20 c 1) (c - 20) zs46 zs46.length hr52 (by first | assumption | omega | (simp only [List.length_append, List.length_cons, List.length_nil, List.length_set, List.length_replicate, List.length_take, List.length_drop]; omega) | (simp only [fits] at *; omega) | (simp only [List.length_append, List.length_cons, List.length_nil, List.length_set, List.length_replicate, List.length_take, List.length_drop] at *; omega) | (simp; done) | decide) (by first | rfl | assumption | omega | (simp only [List.length_append, List.length_cons, List.length_nil, List.length_set, List.length_replicate, List.length_take, List.length_drop]; omega) | (simp; done))) [] (by kernel_rfl) ((Lend.nil _).tells 2 (vw A (nums .u8 xs)) (subBase A 20 c 1) (nums .u8 zs46) (by kernel_rfl) (hB50_t)) ?_)
  rintro _ _ ⟨rfl, rfl⟩
  refine RunR.sil hU [] 1 8 [0, 1, 2, 6, 7, 8, 11, 12, 13, 14, 15, 16, 17, 18, 19, 20, 21, 22] [(0, .slice A xs.length c), (1, .slice A2 ys.length c2), (2, .int .u32 n), (6, .pointer (some ⟨b3, 0, none⟩)), (7, .pointer (some ⟨b4, 0, none⟩)), (8, .int .i64 5), (11, .int .i64 5), (12, .bool true), (13, .int .i64 5), (14, .int .i64 5), (15, .int .i64 9), (16, .slice A xs.length c), (17, .int .i64 5), (18, .int .i64 20), (19, .slice (subBase A 20 c 1) zs46.length (c - 20)), (20, .int .u32 (leN zs46 4)), (21, .pointer (some ⟨b4, 9, none⟩)), (22, .int .i64 5)] ((0 ≤ (9 : Int) ∧ (9 : Int) < ((16 : Nat) : Int)) ∧ True) rfl (by kernel_rfl) ⟨(by omega), trivial⟩ ?_
  refine RunR.step (dst := none) (op := .store 23 (.tmp 21) (.tmp 20)) (by kernel_rfl) (Step.store_blknum hU 0 b4 (9) 87 9 .u32 (((((([1634760805, 857760878, 2036477234, 1797285236, 0, 0, 0, 0, 0, 0, 0, 0, 0, 0, 0, 0] : List Int).set 4 (leN zs6 4)).set 5 (leN zs14 4)).set 6 (leN zs22 4)).set 7 (leN zs30 4)).set 8 (leN zs38 4)) (leN zs46 4) (by kernel_rfl) (by kernel_rfl) (by kernel_rfl) rfl (by omega) (by omega) ?_)
  have hl53 : ((((((([1634760805, 857760878, 2036477234, 1797285236, 0, 0, 0, 0, 0, 0, 0, 0, 0, 0, 0, 0] : List Int).set 4 (leN zs6 4)).set 5 (leN zs14 4)).set 6 (leN zs22 4)).set 7 (leN zs30 4)).set 8 (leN zs38 4)).set 9 (leN zs46 4)).length = (((((([1634760805, 857760878, 2036477234, 1797285236, 0, 0, 0, 0, 0, 0, 0, 0, 0, 0, 0, 0] : List Int).set 4 (leN zs6 4)).set 5 (leN zs14 4)).set 6 (leN zs22 4)).set 7 (leN zs30 4)).set 8 (leN zs38 4)).length := List.length_set
  refine RunR.done (by kernel_rfl) ?_
  refine kblock_n ?_
  refine kseq_n ?_
  refine RunC.region ?_
  refine RunR.sil hU [0] 2 2 [0, 1, 2, 6, 7, 8, 11, 12, 13, 14, 15, 16, 17, 18, 19, 20, 21, 22] [(0, .slice A xs.length c), (1, .slice A2 ys.length c2), (2, .int .u32 n), (6, .pointer (some ⟨b3, 0, none⟩)), (7, .pointer (some ⟨b4, 0, none⟩)), (8, .int .i64 5), (11, .int .i64 6), (12, .bool true), (13, .int .i64 5), (14, .int .i64 5), (15, .int .i64 9), (16, .slice A xs.length c), (17, .int .i64 5), (18, .int .i64 20), (19, .slice (subBase A 20 c 1) zs46.length (c - 20)), (20, .int .u32 (leN zs46 4)), (21, .pointer (some ⟨b4, 9, none⟩)), (22, .int .i64 6)] ((-9223372036854775808 ≤ ((5 : Int) + 1) ∧ ((5 : Int) + 1) < 9223372036854775808) ∧ (True) ∧ True) rfl (by kernel_rfl) ⟨(by decide), trivial, trivial⟩ ?_
  refine RunR.done (by kernel_rfl) ?_
  refine kround_n ?_
  refine RunC.seq ?_
  refine RunC.region ?_
  refine RunR.sil hU [] 1 1 [0, 1, 2, 6, 7, 8, 11, 12, 13, 14, 15, 16, 17, 18, 19, 20, 21, 22] [(0, .slice A xs.length c), (1, .slice A2 ys.length c2), (2, .int .u32 n), (6, .pointer (some ⟨b3, 0, none⟩)), (7, .pointer (some ⟨b4, 0, none⟩)), (8, .int .i64 5), (11, .int .i64 6), (12, .bool true), (13, .int .i64 5), (14, .int .i64 5), (15, .int .i64 9), (16, .slice A xs.length c), (17, .int .i64 5), (18, .int .i64 20), (19, .slice (subBase A 20 c 1) zs46.length (c - 20)), (20, .int .u32 (leN zs46 4)), (21, .pointer (some ⟨b4, 9, none⟩)), (22, .int .i64 6)] ((True) ∧ True) rfl (by kernel_rfl) ⟨trivial, trivial⟩ ?_
  refine RunR.done (by kernel_rfl) ?_
  refine kseq_n ?_
  refine RunC.seq ?_
  refine RunC.cond (b := true) (by kernel_rfl) (fun _ => ?_) (fun h => by cases h)
  refine RunC.skip ?_
  refine kseq_n ?_
  refine RunC.seq ?_
  refine RunC.block ?_
  refine RunC.seq ?_
  refine RunC.region ?_
  refine RunR.sil hU [] 2 2 [0, 1, 2, 6, 7, 8, 11, 12, 13, 14, 15, 16, 17, 18, 19, 20, 21, 22] [(0, .slice A xs.length c), (1, .slice A2 ys.length c2), (2, .int .u32 n), (6, .pointer (some ⟨b3, 0, none⟩)), (7, .pointer (some ⟨b4, 0, none⟩)), (8, .int .i64 6), (11, .int .i64 6), (12, .bool true), (13, .int .i64 6), (14, .int .i64 5), (15, .int .i64 9), (16, .slice A xs.length c), (17, .int .i64 5), (18, .int .i64 20), (19, .slice (subBase A 20 c 1) zs46.length (c - 20)), (20, .int .u32 (leN zs46 4)), (21, .pointer (some ⟨b4, 9, none⟩)), (22, .int .i64 6)] ((True) ∧ (True) ∧ True) rfl (by kernel_rfl) ⟨trivial, trivial, trivial⟩ ?_
  refine RunR.done (by kernel_rfl) ?_
  refine kseq_n ?_
  refine RunC.region ?_
  refine RunR.sil hU [1, 4] 6 6 [0, 1, 2, 6, 7, 8, 11, 12, 13, 14, 15, 16, 17, 18, 19, 20, 21, 22] [(0, .slice A xs.length c), (1, .slice A2 ys.length c2), (2, .int .u32 n), (6, .pointer (some ⟨b3, 0, none⟩)), (7, .pointer (some ⟨b4, 0, none⟩)), (8, .int .i64 6), (11, .int .i64 6), (12, .bool true), (13, .int .i64 6), (14, .int .i64 6), (15, .int .i64 10), (16, .slice A xs.length c), (17, .int .i64 6), (18, .int .i64 24), (19, .slice (subBase A 24 c 1) (xs.length - 24) (c - 24)), (20, .int .u32 (leN zs46 4)), (21, .pointer (some ⟨b4, 9, none⟩)), (22, .int .i64 6)] ((True) ∧ (-9223372036854775808 ≤ ((4 : Int) + 6) ∧ ((4 : Int) + 6) < 9223372036854775808) ∧ (True) ∧ (True) ∧ (-9223372036854775808 ≤ ((4 : Int) * 6) ∧ ((4 : Int) * 6) < 9223372036854775808) ∧ (0 ≤ (24 : Int) ∧ (24 : Int) ≤ ((xs.length : Nat) : Int)) ∧ True) rfl (by kernel_rfl) ⟨trivial, (by decide), trivial, trivial, (by decide), (by omega), trivial⟩ ?_
  obtain ⟨zs54, hz55⟩ : ∃ z : List Int, z = (xs.drop 24).take (xs.length - 24) := ⟨_, rfl⟩
  have hl56 : zs54.length = xs.length - 24 := by rw [hz55, List.length_take, List.length_drop]; omega
  have hB58_t : Tells (vw A (nums .u8 xs)) (subBase A 24 c 1) (nums .u8 zs54) := by rw [hz55]; exact tells_sub_nums (tells_vw _ _) _ _ _ (by omega) (by omega)
  have hA59 : 0 < zs54.length → Option.isSome (subBase A 24 c 1) = true := fun h => part_some (hA1 (by omega)) _ _ _
  refine RunR.env [0, 1, 2, 6, 7, 8, 11, 12, 13, 14, 15, 16, 17, 18, 19, 20, 21, 22] [(0, .slice A xs.length c), (1, .slice A2 ys.length c2), (2, .int .u32 n), (6, .pointer (some ⟨b3, 0, none⟩)), (7, .pointer (some ⟨b4, 0, none⟩)), (8, .int .i64 6), (11, .int .i64 6), (12, .bool true), (13, .int .i64 6), (14, .int .i64 6), (15, .int .i64 10), (16, .slice A xs.length c), (17, .int .i64 6), (18, .int .i64 24), (19, .slice (subBase A 24 c 1) (xs.length - 24) (c - 24)), (20, .int .u32 (leN zs46 4)), (21, .pointer (some ⟨b4, 9, none⟩)), (22, .int .i64 6)] (by kernel_rfl) ?_
  refine RunR.enveq [(0, .slice A xs.length c), (1, .slice A2 ys.length c2), (2, .int .u32 n), (6, .pointer (some ⟨b3, 0, none⟩)), (7, .pointer (some ⟨b4, 0, none⟩)), (8, .int .i64 6), (11, .int .i64 6), (12, .bool true), (13, .int .i64 6), (14, .int .i64 6), (15, .int .i64 10), (16, .slice A xs.length c), (17, .int .i64 6), (18, .int .i64 24), (19, .slice (subBase A 24 c 1) zs54.length (c - 24)), (20, .int .u32 (leN zs46 4)), (21, .pointer (some ⟨b4, 9, none⟩)), (22, .int .i64 6)] (by rw [hl56]) ?_
  have hr60 : In .u8 zs54 := by rw [hz55]; exact (hx.drop _).take _
  refine RunR.step (dst := some 20) (op := .call { callee := .value (.func 73), args := #[.tmp 19], argTypes := #[22] }) (by kernel_rfl) (Step.call 73 [.slice (subBase A 24 c 1) zs54.length (c - 24)] (by kernel_rfl) (by kernel_rfl) [] [vw (subBase A 24 c 1) (nums .u8 zs54)] [blk b4 87 (nums .u32 ((((((([1634760805, 857760878, 2036477234, 1797285236, 0, 0, 0, 0, 0, 0, 0, 0, 0, 0, 0, 0] : List Int).set 4 (leN zs6 4)).set 5 (leN zs14 4)).set 6 (leN zs22 4)).set 7 (leN zs30 4)).set 8 (leN zs38 4)).set 9 (leN zs46 4))), blk b3 87 (nums .u32 (List.replicate 16 (0 : Int))), vw A (nums .u8 xs), vw A2 (nums .u8 ys)] (w_Get32_spec (subBase A 24 c 1) (c - 24) zs54 zs54.length hr60 (by first | assumption | omega | (simp only [List.length_append, List.length_cons, List.length_nil, List.length_set, List.length_replicate, List.length_take, List.length_drop]; omega) | (simp only [fits] at *; omega) | (simp only [List.length_append, List.length_cons, List.length_nil, List.length_set, List.length_replicate, List.length_take, List.length_drop] at *; omega) | (simp; done) | decide) (by first | rfl | assumption | omega | (simp only [List.length_append, List.length_cons, List.length_nil, List.length_set, List.length_replicate, List.length_take, List.length_drop]; omega) | (simp; done))) [] (by kernel_rfl) ((Lend.nil _).tells 2 (vw A (nums .u8 xs)) (subBase A 24 c 1) (nums .u8 zs54) (by kernel_rfl) (hB58_t)) ?_)
  rintro _ _ ⟨rfl, rfl⟩
  refine RunR.sil hU [] 1 8 [0, 1, 2, 6, 7, 8, 11, 12, 13, 14, 15, 16, 17, 18, 19, 20, 21, 22] [(0, .slice A xs.length c), (1, .slice A2 ys.length c2), (2, .int .u32 n), (6, .pointer (some ⟨b3, 0, none⟩)), (7, .pointer (some ⟨b4, 0, none⟩)), (8, .int .i64 6), (11, .int .i64 6), (12, .bool true), (13, .int .i64 6), (14, .int .i64 6), (15, .int .i64 10), (16, .slice A xs.length c), (17, .int .i64 6), (18, .int .i64 24), (19, .slice (subBase A 24 c 1) zs54.length (c - 24)), (20, .int .u32 (leN zs54 4)), (21, .pointer (some ⟨b4, 10, none⟩)), (22, .int .i64 6)] ((0 ≤ (10 : Int) ∧ (10 : Int) < ((16 : Nat) : Int)) ∧ True) rfl (by kernel_rfl) ⟨(by omega), trivial⟩ ?_
  refine RunR.step (dst := none) (op := .store 23 (.tmp 21) (.tmp 20)) (by kernel_rfl) (Step.store_blknum hU 0 b4 (10) 87 10 .u32 ((((((([1634760805, 857760878, 2036477234, 1797285236, 0, 0, 0, 0, 0, 0, 0, 0, 0, 0, 0, 0] : List Int).set 4 (leN zs6 4)).set 5 (leN zs14 4)).set 6 (leN zs22 4)).set 7 (leN zs30 4)).set 8 (leN zs38 4)).set 9 (leN zs46 4)) (leN zs54 4) (by kernel_rfl) (by kernel_rfl) (by kernel_rfl) rfl (by omega) (by omega) ?_)
  have hl61 : (((((((([1634760805, 857760878, 2036477234, 1797285236, 0, 0, 0, 0, 0, 0, 0, 0, 0, 0, 0, 0] : List Int).set 4 (leN zs6 4)).set 5 (leN zs14 4)).set 6 (leN zs22 4)).set 7 (leN zs30 4)).set 8 (leN zs38 4)).set 9 (leN zs46 4)).set 10 (leN zs54 4)).length = ((((((([1634760805, 857760878, 2036477234, 1797285236, 0, 0, 0, 0, 0, 0, 0, 0, 0, 0, 0, 0] : List Int).set 4 (leN zs6 4)).set 5 (leN zs14 4)).set 6 (leN zs22 4)).set 7 (leN zs30 4)).set 8 (leN zs38 4)).set 9 (leN zs46 4)).length := List.length_set
  refine RunR.done (by kernel_rfl) ?_
  refine kblock_n ?_
  refine kseq_n ?_
  refine RunC.region ?_
  refine RunR.sil hU [0] 2 2 [0, 1, 2, 6, 7, 8, 11, 12, 13, 14, 15, 16, 17, 18, 19, 20, 21, 22] [(0, .slice A xs.length c), (1, .slice A2 ys.length c2), (2, .int .u32 n), (6, .pointer (some ⟨b3, 0, none⟩)), (7, .pointer (some ⟨b4, 0, none⟩)), (8, .int .i64 6), (11, .int .i64 7), (12, .bool true), (13, .int .i64 6), (14, .int .i64 6), (15, .int .i64 10), (16, .slice A xs.length c), (17, .int .i64 6), (18, .int .i64 24), (19, .slice (subBase A 24 c 1) zs54.length (c - 24)), (20, .int .u32 (leN zs54 4)), (21, .pointer (some ⟨b4, 10, none⟩)), (22, .int .i64 7)] ((-9223372036854775808 ≤ ((6 : Int) + 1) ∧ ((6 : Int) + 1) < 9223372036854775808) ∧ (True) ∧ True) rfl (by kernel_rfl) ⟨(by decide), trivial, trivial⟩ ?_
  refine RunR.done (by kernel_rfl) ?_
  refine kround_n ?_
  refine RunC.seq ?_
  refine RunC.region ?_
  refine RunR.sil hU [] 1 1 [0, 1, 2, 6, 7, 8, 11, 12, 13, 14, 15, 16, 17, 18, 19, 20, 21, 22] [(0, .slice A xs.length c), (1, .slice A2 ys.length c2), (2, .int .u32 n), (6, .pointer (some ⟨b3, 0, none⟩)), (7, .pointer (some ⟨b4, 0, none⟩)), (8, .int .i64 6), (11, .int .i64 7), (12, .bool true), (13, .int .i64 6), (14, .int .i64 6), (15, .int .i64 10), (16, .slice A xs.length c), (17, .int .i64 6), (18, .int .i64 24), (19, .slice (subBase A 24 c 1) zs54.length (c - 24)), (20, .int .u32 (leN zs54 4)), (21, .pointer (some ⟨b4, 10, none⟩)), (22, .int .i64 7)] ((True) ∧ True) rfl (by kernel_rfl) ⟨trivial, trivial⟩ ?_
  refine RunR.done (by kernel_rfl) ?_
  refine kseq_n ?_
  refine RunC.seq ?_
  refine RunC.cond (b := true) (by kernel_rfl) (fun _ => ?_) (fun h => by cases h)
  refine RunC.skip ?_
  refine kseq_n ?_
  refine RunC.seq ?_
  refine RunC.block ?_
  refine RunC.seq ?_
  refine RunC.region ?_
  refine RunR.sil hU [] 2 2 [0, 1, 2, 6, 7, 8, 11, 12, 13, 14, 15, 16, 17, 18, 19, 20, 21, 22] [(0, .slice A xs.length c), (1, .slice A2 ys.length c2), (2, .int .u32 n), (6, .pointer (some ⟨b3, 0, none⟩)), (7, .pointer (some ⟨b4, 0, none⟩)), (8, .int .i64 7), (11, .int .i64 7), (12, .bool true), (13, .int .i64 7), (14, .int .i64 6), (15, .int .i64 10), (16, .slice A xs.length c), (17, .int .i64 6), (18, .int .i64 24), (19, .slice (subBase A 24 c 1) zs54.length (c - 24)), (20, .int .u32 (leN zs54 4)), (21, .pointer (some ⟨b4, 10, none⟩)), (22, .int .i64 7)] ((True) ∧ (True) ∧ True) rfl (by kernel_rfl) ⟨trivial, trivial, trivial⟩ ?_
  refine RunR.done (by kernel_rfl) ?_
  refine kseq_n ?_
  refine RunC.region ?_
  refine RunR.sil hU [1, 4] 6 6 [0, 1, 2, 6, 7, 8, 11, 12, 13, 14, 15, 16, 17, 18, 19, 20, 21, 22] [(0, .slice A xs.length c), (1, .slice A2 ys.length c2), (2, .int .u32 n), (6, .pointer (some ⟨b3, 0, none⟩)), (7, .pointer (some ⟨b4, 0, none⟩)), (8, .int .i64 7), (11, .int .i64 7), (12, .bool true), (13, .int .i64 7), (14, .int .i64 7), (15, .int .i64 11), (16, .slice A xs.length c), (17, .int .i64 7), (18, .int .i64 28), (19, .slice (subBase A 28 c 1) (xs.length - 28) (c - 28)), (20, .int .u32 (leN zs54 4)), (21, .pointer (some ⟨b4, 10, none⟩)), (22, .int .i64 7)] ((True) ∧ (-9223372036854775808 ≤ ((4 : Int) + 7) ∧ ((4 : Int) + 7) < 9223372036854775808) ∧ (True) ∧ (True) ∧ (-9223372036854775808 ≤ ((4 : Int) * 7) ∧ ((4 : Int) * 7) < 9223372036854775808) ∧ (0 ≤ (28 : Int) ∧ (28 : Int) ≤ ((xs.length : Nat) : Int)) ∧ True) rfl (by kernel_rfl) ⟨trivial, (by decide), trivial, trivial, (by decide), (by omega), trivial⟩ ?_
  obtain ⟨zs62, hz63⟩ : ∃ z : List Int, z = (xs.drop 28).take (xs.length - 28) := ⟨_, rfl⟩
  have hl64 : zs62.length = xs.length - 28 := by rw [hz63, List.length_take, List.length_drop]; omega
  have hB66_t : Tells (vw A (nums .u8 xs)) (subBase A 28 c 1) (nums .u8 zs62) := by rw [hz63]; exact tells_sub_nums (tells_vw _ _) _ _ _ (by omega) (by omega)
  have hA67 : 0 < zs62.length → Option.isSome (subBase A 28 c 1) = true := fun h => part_some (hA1 (by omega)) _ _ _
  refine RunR.env [0, 1, 2, 6, 7, 8, 11, 12, 13, 14, 15, 16, 17, 18, 19, 20, 21, 22] [(0, .slice A xs.length c), (1, .slice A2 ys.length c2), (2, .int .u32 n), (6, .pointer (some ⟨b3, 0, none⟩)), (7, .pointer (some ⟨b4, 0, none⟩)), (8, .int .i64 7), (11, .int .i64 7), (12, .bool true), (13, .int .i64 7), (14, .int .i64 7), (15, .int .i64 11), (16, .slice A xs.length c), (17, .int .i64 7), (18, .int .i64 28), (19, .slice (subBase A 28 c 1) (xs.length - 28) (c - 28)), (20, .int .u32 (leN zs54 4)), (21, .pointer (some ⟨b4, 10, none⟩)), (22, .int .i64 7)] (by kernel_rfl) ?_
  refine RunR.enveq [(0, .slice A xs.length c), (1, .slice A2 ys.length c2), (2, .int .u32 n), (6, .pointer (some ⟨b3, 0, none⟩)), (7, .pointer (some ⟨b4, 0, none⟩)), (8, .int .i64 7), (11, .int .i64 7), (12, .bool true), (13, .int .i64 7), (14, .int .i64 7), (15, .int .i64 11), (16, .slice A xs.length c), (17, .int .i64 7), (18, .int .i64 28), (19, .slice (subBase A 28 c 1) zs62.length (c - 28)), (20, .int .u32 (leN zs54 4)), (21, .pointer (some ⟨b4, 10, none⟩)), (22, .int .i64 7)] (by rw [hl64]) ?_
  have hr68 : In .u8 zs62 := by rw [hz63]; exact (hx.drop _).take _
  refine RunR.step (dst := some 20) (op := .call { callee := .value (.func 73), args := #[.tmp 19], argTypes := #[22] }) (by kernel_rfl) (Step.call 73 [.slice (subBase A 28 c 1) zs62.length (c - 28)] (by kernel_rfl) (by kernel_rfl) [] [vw (subBase A 28 c 1) (nums .u8 zs62)] [blk b4 87 (nums .u32 (((((((([1634760805, 857760878, 2036477234, 1797285236, 0, 0, 0, 0, 0, 0, 0, 0, 0, 0, 0, 0] : List Int).set 4 (leN zs6 4)).set 5 (leN zs14 4)).set 6 (leN zs22 4)).set 7 (leN zs30 4)).set 8 (leN zs38 4)).set 9 (leN zs46 4)).set 10 (leN zs54 4))), blk b3 87 (nums .u32 (List.replicate 16 (0 : Int))), vw A (nums .u8 xs), vw A2 (nums .u8 ys)] (w_Get32_spec (subBase A 28 c 1) (c - 28) zs62 zs62.length hr68 (by first | assumption | omega | (simp only [List.length_append, List.length_cons, List.length_nil, List.length_set, List.length_replicate, List.length_take, List.length_drop]; omega) | (simp only [fits] at *; omega) | (simp only [List.length_append, List.length_cons, List.length_nil, List.length_set, List.length_replicate, List.length_take, List.length_drop] at *; omega) | (simp; done) | decide) (by first | rfl | assumption | omega | (simp only [List.length_append, List.length_cons, List.length_nil, List.length_set, List.length_replicate, List.length_take, List.length_drop]; omega) | (simp; done))) [] (by kernel_rfl) ((Lend.nil _).tells 2 (vw A (nums .u8 xs)) (subBase A 28 c 1) (nums .u8 zs62) (by kernel_rfl) (hB66_t)) ?_)
  rintro _ _ ⟨rfl, rfl⟩
  refine RunR.sil hU [] 1 8 [0, 1, 2, 6, 7, 8, 11, 12, 13, 14, 15, 16, 17, 18, 19, 20, 21, 22] [(0, .slice A xs.length c), (1, .slice A2 ys.length c2), (2, .int .u32 n), (6, .pointer (some ⟨b3, 0, none⟩)), (7, .pointer (some ⟨b4, 0, none⟩)), (8, .int .i64 7), (11, .int .i64 7), (12, .bool true), (13, .int .i64 7), (14, .int .i64 7), (15, .int .i64 11), (16, .slice A xs.length c), (17, .int .i64 7), (18, .int .i64 28), (19, .slice (subBase A 28 c 1) zs62.length (c - 28)), (20, .int .u32 (leN zs62 4)), (21, .pointer (some ⟨b4, 11, none⟩)), (22, .int .i64 7)] ((0 ≤ (11 : Int) ∧ (11 : Int) < ((16 : Nat) : Int)) ∧ True) rfl (by kernel_rfl) ⟨(by omega), trivial⟩ ?_
  refine RunR.step (dst := none) (op := .store 23 (.tmp 21) (.tmp 20)) (by kernel_rfl) (Step.store_blknum hU 0 b4 (11) 87 11 .u32 (((((((([1634760805, 857760878, 2036477234, 1797285236, 0, 0, 0, 0, 0, 0, 0, 0, 0, 0, 0, 0] : List Int).set 4 (leN zs6 4)).set 5 (leN zs14 4)).set 6 (leN zs22 4)).set 7 (leN zs30 4)).set 8 (leN zs38 4)).set 9 (leN zs46 4)).set 10 (leN zs54 4)) (leN zs62 4) (by kernel_rfl) (by kernel_rfl) (by kernel_rfl) rfl (by omega) (by omega) ?_)
  have hl69 : ((((((((([1634760805, 857760878, 2036477234, 1797285236, 0, 0, 0, 0, 0, 0, 0, 0, 0, 0, 0, 0] : List Int).set 4 (leN zs6 4)).set 5 (leN zs14 4)).set 6 (leN zs22 4)).set 7 (leN zs30 4)).set 8 (leN zs38 4)).set 9 (leN zs46 4)).set 10 (leN zs54 4)).set 11 (leN zs62 4)).length = (((((((([1634760805, 857760878, 2036477234, 1797285236, 0, 0, 0, 0, 0, 0, 0, 0, 0, 0, 0, 0] : List Int).set 4 (leN zs6 4)).set 5 (leN zs14 4)).set 6 (leN zs22 4)).set 7 (leN zs30 4)).set 8 (leN zs38 4)).set 9 (leN zs46 4)).set 10 (leN zs54 4)).length := List.length_set
  refine RunR.done (by kernel_rfl) ?_
  refine kblock_n ?_
  refine kseq_n ?_
  refine RunC.region ?_
  refine RunR.sil hU [0] 2 2 [0, 1, 2, 6, 7, 8, 11, 12, 13, 14, 15, 16, 17, 18, 19, 20, 21, 22] [(0, .slice A xs.length c), (1, .slice A2 ys.length c2), (2, .int .u32 n), (6, .pointer (some ⟨b3, 0, none⟩)), (7, .pointer (some ⟨b4, 0, none⟩)), (8, .int .i64 7), (11, .int .i64 8), (12, .bool true), (13, .int .i64 7), (14, .int .i64 7), (15, .int .i64 11), (16, .slice A xs.length c), (17, .int .i64 7), (18, .int .i64 28), (19, .slice (subBase A 28 c 1) zs62.length (c - 28)), (20, .int .u32 (leN zs62 4)), (21, .pointer (some ⟨b4, 11, none⟩)), (22, .int .i64 8)] ((-9223372036854775808 ≤ ((7 : Int) + 1) ∧ ((7 : Int) + 1) < 9223372036854775808) ∧ (True) ∧ True) rfl (by kernel_rfl) ⟨(by decide), trivial, trivial⟩ ?_
  refine RunR.done (by kernel_rfl) ?_
  refine kround_n ?_
  refine RunC.seq ?_
  refine RunC.region ?_
  refine RunR.sil hU [] 1 1 [0, 1, 2, 6, 7, 8, 11, 12, 13, 14, 15, 16, 17, 18, 19, 20, 21, 22] [(0, .slice A xs.length c), (1, .slice A2 ys.length c2), (2, .int .u32 n), (6, .pointer (some ⟨b3, 0, none⟩)), (7, .pointer (some ⟨b4, 0, none⟩)), (8, .int .i64 7), (11, .int .i64 8), (12, .bool false), (13, .int .i64 7), (14, .int .i64 7), (15, .int .i64 11), (16, .slice A xs.length c), (17, .int .i64 7), (18, .int .i64 28), (19, .slice (subBase A 28 c 1) zs62.length (c - 28)), (20, .int .u32 (leN zs62 4)), (21, .pointer (some ⟨b4, 11, none⟩)), (22, .int .i64 8)] ((True) ∧ True) rfl (by kernel_rfl) ⟨trivial, trivial⟩ ?_
  refine RunR.done (by kernel_rfl) ?_
  refine kseq_n ?_
  refine RunC.seq ?_
  refine RunC.cond (b := false) (by kernel_rfl) (fun h => by cases h) (fun _ => ?_)
  refine RunC.exit ?_
  refine kseq_e ?_
  refine kround_e ?_
  refine kblock_e ?_
  refine kseq_n ?_
  refine RunC.seq ?_
  refine RunC.region ?_
  refine RunR.sil hU [] 2 2 [1, 6, 7, 23, 24] [(1, .slice A2 ys.length c2), (6, .pointer (some ⟨b3, 0, none⟩)), (7, .pointer (some ⟨b4, 0, none⟩)), (23, .int .u32 n), (24, .pointer (some ⟨b4, 12, none⟩))] ((True) ∧ (0 ≤ (12 : Int) ∧ (12 : Int) < ((16 : Nat) : Int)) ∧ True) rfl (by kernel_rfl) ⟨trivial, (by omega), trivial⟩ ?_
  refine RunR.step (dst := none) (op := .store 23 (.tmp 24) (.tmp 23)) (by kernel_rfl) (Step.store_blknum hU 0 b4 (12) 87 12 .u32 ((((((((([1634760805, 857760878, 2036477234, 1797285236, 0, 0, 0, 0, 0, 0, 0, 0, 0, 0, 0, 0] : List Int).set 4 (leN zs6 4)).set 5 (leN zs14 4)).set 6 (leN zs22 4)).set 7 (leN zs30 4)).set 8 (leN zs38 4)).set 9 (leN zs46 4)).set 10 (leN zs54 4)).set 11 (leN zs62 4)) n (by kernel_rfl) (by kernel_rfl) (by kernel_rfl) rfl (by omega) (by omega) ?_)
  have hl70 : (((((((((([1634760805, 857760878, 2036477234, 1797285236, 0, 0, 0, 0, 0, 0, 0, 0, 0, 0, 0, 0] : List Int).set 4 (leN zs6 4)).set 5 (leN zs14 4)).set 6 (leN zs22 4)).set 7 (leN zs30 4)).set 8 (leN zs38 4)).set 9 (leN zs46 4)).set 10 (leN zs54 4)).set 11 (leN zs62 4)).set 12 n).length = ((((((((([1634760805, 857760878, 2036477234, 1797285236, 0, 0, 0, 0, 0, 0, 0, 0, 0, 0, 0, 0] : List Int).set 4 (leN zs6 4)).set 5 (leN zs14 4)).set 6 (leN zs22 4)).set 7 (leN zs30 4)).set 8 (leN zs38 4)).set 9 (leN zs46 4)).set 10 (leN zs54 4)).set 11 (leN zs62 4)).length := List.length_set
  refine RunR.done (by kernel_rfl) ?_
  refine kseq_n ?_
  refine RunC.seq ?_
  refine RunC.seq ?_
  refine RunC.region ?_
  refine RunR.sil hU [] 1 1 [1, 6, 7, 25] [(1, .slice A2 ys.length c2), (6, .pointer (some ⟨b3, 0, none⟩)), (7, .pointer (some ⟨b4, 0, none⟩)), (25, .int .i64 0)] ((True) ∧ True) rfl (by kernel_rfl) ⟨trivial, trivial⟩ ?_
  refine RunR.done (by kernel_rfl) ?_
  refine kseq_n ?_
  refine RunC.block ?_
  refine RunC.unroll 3 ?_
  refine RunC.seq ?_
  refine RunC.region ?_
  refine RunR.sil hU [] 1 1 [1, 6, 7, 25, 26] [(1, .slice A2 ys.length c2), (6, .pointer (some ⟨b3, 0, none⟩)), (7, .pointer (some ⟨b4, 0, none⟩)), (25, .int .i64 0), (26, .bool true)] ((True) ∧ True) rfl (by kernel_rfl) ⟨trivial, trivial⟩ ?_
  refine RunR.done (by kernel_rfl) ?_
  refine kseq_n ?_
  refine RunC.seq ?_
  refine RunC.cond (b := true) (by kernel_rfl) (fun _ => ?_) (fun h => by cases h)
  refine RunC.skip ?_
  refine kseq_n ?_
  refine RunC.seq ?_
  refine RunC.block ?_
  refine RunC.seq ?_
  refine RunC.region ?_
  refine RunR.sil hU [] 2 2 [1, 6, 7, 9, 25, 26, 27] [(1, .slice A2 ys.length c2), (6, .pointer (some ⟨b3, 0, none⟩)), (7, .pointer (some ⟨b4, 0, none⟩)), (9, .int .i64 0), (25, .int .i64 0), (26, .bool true), (27, .int .i64 0)] ((True) ∧ (True) ∧ True) rfl (by kernel_rfl) ⟨trivial, trivial, trivial⟩ ?_
  refine RunR.done (by kernel_rfl) ?_
  refine kseq_n ?_
  refine RunC.region ?_
  refine RunR.sil hU [1, 4] 6 6 [1, 6, 7, 9, 25, 26, 27, 28, 29, 30, 31, 32, 33] [(1, .slice A2 ys.length c2), (6, .pointer (some ⟨b3, 0, none⟩)), (7, .pointer (some ⟨b4, 0, none⟩)), (9, .int .i64 0), (25, .int .i64 0), (26, .bool true), (27, .int .i64 0), (28, .int .i64 0), (29, .int .i64 13), (30, .slice A2 ys.length c2), (31, .int .i64 0), (32, .int .i64 0), (33, .slice (subBase A2 0 c2 1) (ys.length - 0) (c2 - 0))] ((True) ∧ (-9223372036854775808 ≤ ((13 : Int) + 0) ∧ ((13 : Int) + 0) < 9223372036854775808) ∧ (True) ∧ (True) ∧ (-9223372036854775808 ≤ ((4 : Int) * 0) ∧ ((4 : Int) * 0) < 9223372036854775808) ∧ (0 ≤ (0 : Int) ∧ (0 : Int) ≤ ((ys.length : Nat) : Int)) ∧ True) rfl (by kernel_rfl) ⟨trivial, (by decide), trivial, trivial, (by decide), (by omega), trivial⟩ ?_
  obtain ⟨zs71, hz72⟩ : ∃ z : List Int, z = (ys.drop 0).take (ys.length - 0) := ⟨_, rfl⟩
  have hl73 : zs71.length = ys.length - 0 := by rw [hz72, List.length_take, List.length_drop]; omega
  have hB75_t : Tells (vw A2 (nums .u8 ys)) (subBase A2 0 c2 1) (nums .u8 zs71) := by rw [hz72]; exact tells_sub_nums (tells_vw _ _) _ _ _ (by omega) (by omega)
  have hA76 : 0 < zs71.length → Option.isSome (subBase A2 0 c2 1) = true := fun h => part_some (hA2 (by omega)) _ _ _
  refine RunR.env [1, 6, 7, 9, 25, 26, 27, 28, 29, 30, 31, 32, 33] [(1, .slice A2 ys.length c2), (6, .pointer (some ⟨b3, 0, none⟩)), (7, .pointer (some ⟨b4, 0, none⟩)), (9, .int .i64 0), (25, .int .i64 0), (26, .bool true), (27, .int .i64 0), (28, .int .i64 0), (29, .int .i64 13), (30, .slice A2 ys.length c2), (31, .int .i64 0), (32, .int .i64 0), (33, .slice (subBase A2 0 c2 1) (ys.length - 0) (c2 - 0))] (by kernel_rfl) ?_
  refine RunR.enveq [(1, .slice A2 ys.length c2), (6, .pointer (some ⟨b3, 0, none⟩)), (7, .pointer (some ⟨b4, 0, none⟩)), (9, .int .i64 0), (25, .int .i64 0), (26, .bool true), (27, .int .i64 0), (28, .int .i64 0), (29, .int .i64 13), (30, .slice A2 ys.length c2), (31, .int .i64 0), (32, .int .i64 0), (33, .slice (subBase A2 0 c2 1) zs71.length (c2 - 0))] (by rw [hl73]) ?_
  have hr77 : In .u8 zs71 := by rw [hz72]; exact (hy.drop _).take _
  refine RunR.step (dst := some 34) (op := .call { callee := .value (.func 73), args := #[.tmp 33], argTypes := #[22] }) (by kernel_rfl) (Step.call 73 [.slice (subBase A2 0 c2 1) zs71.length (c2 - 0)] (by kernel_rfl) (by kernel_rfl) [] [vw (subBase A2 0 c2 1) (nums .u8 zs71)] [blk b4 87 (nums .u32 (((((((((([1634760805, 857760878, 2036477234, 1797285236, 0, 0, 0, 0, 0, 0, 0, 0, 0, 0, 0, 0] : List Int).set 4 (leN zs6 4)).set 5 (leN zs14 4)).set 6 (leN zs22 4)).set 7 (leN zs30 4)).set 8 (leN zs38 4)).set 9 (leN zs46 4)).set 10 (leN zs54 4)).set 11 (leN zs62 4)).set 12 n)), blk b3 87 (nums .u32 (List.replicate 16 (0 : Int))), vw A (nums .u8 xs), vw A2 (nums .u8 ys)] (w_Get32_spec (subBase A2 0 c2 1) (c2 - 0) zs71 zs71.length hr77 (by first | assumption | omega | (simp only [List.length_append, List.length_cons, List.length_nil, List.length_set, List.length_replicate, List.length_take, List.length_drop]; omega) | (simp only [fits] at *; omega) | (simp only [List.length_append, List.length_cons, List.length_nil, List.length_set, List.length_replicate, List.length_take, List.length_drop] at *; omega) | (simp; done) | decide) (by first | rfl | assumption | omega | (simp only [List.length_append, List.length_cons, List.length_nil, List.length_set, List.length_replicate, List.length_take, List.length_drop]; omega) | (simp; done))) [] (by kernel_rfl) ((Lend.nil _).tells 3 (vw A2 (nums .u8 ys)) (subBase A2 0 c2 1) (nums .u8 zs71) (by kernel_rfl) (hB75_t)) ?_)
  rintro _ _ ⟨rfl, rfl⟩
  refine RunR.sil hU [] 1 8 [1, 6, 7, 9, 25, 26, 27, 28, 29, 30, 31, 32, 33, 34, 35] [(1, .slice A2 ys.length c2), (6, .pointer (some ⟨b3, 0, none⟩)), (7, .pointer (some ⟨b4, 0, none⟩)), (9, .int .i64 0), (25, .int .i64 0), (26, .bool true), (27, .int .i64 0), (28, .int .i64 0), (29, .int .i64 13), (30, .slice A2 ys.length c2), (31, .int .i64 0), (32, .int .i64 0), (33, .slice (subBase A2 0 c2 1) zs71.length (c2 - 0)), (34, .int .u32 (leN zs71 4)), (35, .pointer (some ⟨b4, 13, none⟩))] ((0 ≤ (13 : Int) ∧ (13 : Int) < ((16 : Nat) : Int)) ∧ True) rfl (by kernel_rfl) ⟨(by omega), trivial⟩ ?_
  refine RunR.step (dst := none) (op := .store 23 (.tmp 35) (.tmp 34)) (by kernel_rfl) (Step.store_blknum hU 0 b4 (13) 87 13 .u32 (((((((((([1634760805, 857760878, 2036477234, 1797285236, 0, 0, 0, 0, 0, 0, 0, 0, 0, 0, 0, 0] : List Int).set 4 (leN zs6 4)).set 5 (leN zs14 4)).set 6 (leN zs22 4)).set 7 (leN zs30 4)).set 8 (leN zs38 4)).set 9 (leN zs46 4)).set 10 (leN zs54 4)).set 11 (leN zs62 4)).set 12 n) (leN zs71 4) (by kernel_rfl) (by kernel_rfl) (by kernel_rfl) rfl (by omega) (by omega) ?_)
  have hl78 : ((((((((((([1634760805, 857760878, 2036477234, 1797285236, 0, 0, 0, 0, 0, 0, 0, 0, 0, 0, 0, 0] : List Int).set 4 (leN zs6 4)).set 5 (leN zs14 4)).set 6 (leN zs22 4)).set 7 (leN zs30 4)).set 8 (leN zs38 4)).set 9 (leN zs46 4)).set 10 (leN zs54 4)).set 11 (leN zs62 4)).set 12 n).set 13 (leN zs71 4)).length = (((((((((([1634760805, 857760878, 2036477234, 1797285236, 0, 0, 0, 0, 0, 0, 0, 0, 0, 0, 0, 0] : List Int).set 4 (leN zs6 4)).set 5 (leN zs14 4)).set 6 (leN zs22 4)).set 7 (leN zs30 4)).set 8 (leN zs38 4)).set 9 (leN zs46 4)).set 10 (leN zs54 4)).set 11 (leN zs62 4)).set 12 n).length := List.length_set
  refine RunR.done (by kernel_rfl) ?_
  refine kblock_n ?_
  refine kseq_n ?_
  refine RunC.region ?_
  refine RunR.sil hU [0] 2 2 [1, 6, 7, 9, 25, 26, 27, 28, 29, 30, 31, 32, 33, 34, 35, 36] [(1, .slice A2 ys.length c2), (6, .pointer (some ⟨b3, 0, none⟩)), (7, .pointer (some ⟨b4, 0, none⟩)), (9, .int .i64 0), (25, .int .i64 1), (26, .bool true), (27, .int .i64 0), (28, .int .i64 0), (29, .int .i64 13), (30, .slice A2 ys.length c2), (31, .int .i64 0), (32, .int .i64 0), (33, .slice (subBase A2 0 c2 1) zs71.length (c2 - 0)), (34, .int .u32 (leN zs71 4)), (35, .pointer (some ⟨b4, 13, none⟩)), (36, .int .i64 1)] ((-9223372036854775808 ≤ ((0 : Int) + 1) ∧ ((0 : Int) + 1) < 9223372036854775808) ∧ (True) ∧ True) rfl (by kernel_rfl) ⟨(by decide), trivial, trivial⟩ ?_
  refine RunR.done (by kernel_rfl) ?_
  refine kround_n ?_
  refine RunC.seq ?_
  refine RunC.region ?_
  refine RunR.sil hU [] 1 1 [1, 6, 7, 9, 25, 26, 27, 28, 29, 30, 31, 32, 33, 34, 35, 36] [(1, .slice A2 ys.length c2), (6, .pointer (some ⟨b3, 0, none⟩)), (7, .pointer (some ⟨b4, 0, none⟩)), (9, .int .i64 0), (25, .int .i64 1), (26, .bool true), (27, .int .i64 0), (28, .int .i64 0), (29, .int .i64 13), (30, .slice A2 ys.length c2), (31, .int .i64 0), (32, .int .i64 0), (33, .slice (subBase A2 0 c2 1) zs71.length (c2 - 0)), (34, .int .u32 (leN zs71 4)), (35, .pointer (some ⟨b4, 13, none⟩)), (36, .int .i64 1)] ((True) ∧ True) rfl (by kernel_rfl) ⟨trivial, trivial⟩ ?_
  refine RunR.done (by kernel_rfl) ?_
  refine kseq_n ?_
  refine RunC.seq ?_
  refine RunC.cond (b := true) (by kernel_rfl) (fun _ => ?_) (fun h => by cases h)
  refine RunC.skip ?_
  refine kseq_n ?_
  refine RunC.seq ?_
  refine RunC.block ?_
  refine RunC.seq ?_
  refine RunC.region ?_
  refine RunR.sil hU [] 2 2 [1, 6, 7, 9, 25, 26, 27, 28, 29, 30, 31, 32, 33, 34, 35, 36] [(1, .slice A2 ys.length c2), (6, .pointer (some ⟨b3, 0, none⟩)), (7, .pointer (some ⟨b4, 0, none⟩)), (9, .int .i64 1), (25, .int .i64 1), (26, .bool true), (27, .int .i64 1), (28, .int .i64 0), (29, .int .i64 13), (30, .slice A2 ys.length c2), (31, .int .i64 0), (32, .int .i64 0), (33, .slice (subBase A2 0 c2 1) zs71.length (c2 - 0)), (34, .int .u32 (leN zs71 4)), (35, .pointer (some ⟨b4, 13, none⟩)), (36, .int .i64 1)] ((True) ∧ (True) ∧ True) rfl (by kernel_rfl) ⟨trivial, trivial, trivial⟩ ?_
  refine RunR.done (by kernel_rfl) ?_
  refine kseq_n ?_
  refine RunC.region ?_
  refine RunR.sil hU [1, 4] 6 6 [1, 6, 7, 9, 25, 26, 27, 28, 29, 30, 31, 32, 33, 34, 35, 36] [(1, .slice A2 ys.length c2), (6, .pointer (some ⟨b3, 0, none⟩)), (7, .pointer (some ⟨b4, 0, none⟩)), (9, .int .i64 1), (25, .int .i64 1), (26, .bool true), (27, .int .i64 1), (28, .int .i64 1), (29, .int .i64 14), (30, .slice A2 ys.length c2), (31, .int .i64 1), (32, .int .i64 4), (33, .slice (subBase A2 4 c2 1) (ys.length - 4) (c2 - 4)), (34, .int .u32 (leN zs71 4)), (35, .pointer (some ⟨b4, 13, none⟩)), (36, .int .i64 1)] ((True) ∧ (-9223372036854775808 ≤ ((13 : Int) + 1) ∧ ((13 : Int) + 1) < 9223372036854775808) ∧ (True) ∧ (True) ∧ (-9223372036854775808 ≤ ((4 : Int) * 1) ∧ ((4 : Int) * 1) < 9223372036854775808) ∧ (0 ≤ (4 : Int) ∧ (4 : Int) ≤ ((ys.length : Nat) : Int)) ∧ True) rfl (by kernel_rfl) ⟨trivial, (by decide), trivial, trivial, (by decide), (by omega), trivial⟩ ?_
  obtain ⟨zs79, hz80⟩ : ∃ z : List Int, z = (ys.drop 4).take (ys.length - 4) := ⟨_, rfl⟩
  have hl81 : zs79.length = ys.length - 4 := by rw [hz80, List.length_take, List.length_drop]; omega
  have hB83_t : Tells (vw A2 (nums .u8 ys)) (subBase A2 4 c2 1) (nums .u8 zs79) := by rw [hz80]; exact tells_sub_nums (tells_vw _ _) _ _ _ (by omega) (by omega)
  have hA84 : 0 < zs79.length → Option.isSome (subBase A2 4 c2 1) = true := fun h => part_some (hA2 (by omega)) _ _ _
  refine RunR.env [1, 6, 7, 9, 25, 26, 27, 28, 29, 30, 31, 32, 33, 34, 35, 36] [(1, .slice A2 ys.length c2), (6, .pointer (some ⟨b3, 0, none⟩)), (7, .pointer (some ⟨b4, 0, none⟩)), (9, .int .i64 1), (25, .int .i64 1), (26, .bool true), (27, .int .i64 1), (28, .int .i64 1), (29, .int .i64 14), (30, .slice A2 ys.length c2), (31, .int .i64 1), (32, .int .i64 4), (33, .slice (subBase A2 4 c2 1) (ys.length - 4) (c2 - 4)), (34, .int .u32 (leN zs71 4)), (35, .pointer (some ⟨b4, 13, none⟩)), (36, .int .i64 1)] (by kernel_rfl) ?_
  refine RunR.enveq [(1, .slice A2 ys.length c2), (6, .pointer (some ⟨b3, 0, none⟩)), (7, .pointer (some ⟨b4, 0, none⟩)), (9, .int .i64 1), (25, .int .i64 1), (26, .bool true), (27, .int .i64 1), (28, .int .i64 1), (29, .int .i64 14), (30, .slice A2 ys.length c2), (31, .int .i64 1), (32, .int .i64 4), (33, .slice (subBase A2 4 c2 1) zs79.length (c2 - 4)), (34, .int .u32 (leN zs71 4)), (35, .pointer (some ⟨b4, 13, none⟩)), (36, .int .i64 1)] (by rw [hl81]) ?_
  have hr85 : In .u8 zs79 := by rw [hz80]; exact (hy.drop _).take _
  refine RunR.step (dst := some 34) (op := .call { callee := .value (.func 73), args := #[.tmp 33], argTypes := #[22] }) (by kernel_rfl) (Step.call 73 [.slice (subBase A2 4 c2 1) zs79.length (c2 - 4)] (by kernel_rfl) (by kernel_rfl) [] [vw (subBase A2 4 c2 1) (nums .u8 zs79)] [blk b4 87 (nums .u32 ((((((((((([1634760805, 857760878, 2036477234, 1797285236, 0, 0, 0, 0, 0, 0, 0, 0, 0, 0, 0, 0] : List Int).set 4 (leN zs6 4)).set 5 (leN zs14 4)).set 6 (leN zs22 4)).set 7 (leN zs30 4)).set 8 (leN zs38 4)).set 9 (leN zs46 4)).set 10 (leN zs54 4)).set 11 (leN zs62 4)).set 12 n).set 13 (leN zs71 4))), blk b3 87 (nums .u32 (List.replicate 16 (0 : Int))), vw A (nums .u8 xs), vw A2 (nums .u8 ys)] (w_Get32_spec (subBase A2 4 c2 1) (c2 - 4) zs79 zs79.length hr85 (by first | assumption | omega | (simp only [List.length_append, List.length_cons, List.length_nil, List.length_set, List.length_replicate, List.length_take, List.length_drop]; omega) | (simp only [fits] at *; omega) | (simp only [List.length_append, List.length_cons, List.length_nil, List.length_set, List.length_replicate, List.length_take, List.length_drop] at *; omega) | (simp; done) | decide) (by first | rfl | assumption | omega | (simp only [List.length_append, List.length_cons, List.length_nil, List.length_set, List.length_replicate, List.length_take, List.length_drop]; omega) | (simp; done))) [] (by kernel_rfl) ((Lend.nil _).tells 3 (vw A2 (nums .u8 ys)) (subBase A2 4 c2 1) (nums .u8 zs79) (by kernel_rfl) (hB83_t)) ?_)
  rintro _ _ ⟨rfl, rfl⟩
  refine RunR.sil hU [] 1 8 [1, 6, 7, 9, 25, 26, 27, 28, 29, 30, 31, 32, 33, 34, 35, 36] [(1, .slice A2 ys.length c2), (6, .pointer (some ⟨b3, 0, none⟩)), (7, .pointer (some ⟨b4, 0, none⟩)), (9, .int .i64 1), (25, .int .i64 1), (26, .bool true), (27, .int .i64 1), (28, .int .i64 1), (29, .int .i64 14), (30, .slice A2 ys.length c2), (31, .int .i64 1), (32, .int .i64 4), (33, .slice (subBase A2 4 c2 1) zs79.length (c2 - 4)), (34, .int .u32 (leN zs79 4)), (35, .pointer (some ⟨b4, 14, none⟩)), (36, .int .i64 1)] ((0 ≤ (14 : Int) ∧ (14 : Int) < ((16 : Nat) : Int)) ∧ True) rfl (by kernel_rfl) ⟨(by omega), trivial⟩ ?_
  refine RunR.step (dst := none) (op := .store 23 (.tmp 35) (.tmp 34)) (by kernel_rfl) (Step.store_blknum hU 0 b4 (14) 87 14 .u32 ((((((((((([1634760805, 857760878, 2036477234, 1797285236, 0, 0, 0, 0, 0, 0, 0, 0, 0, 0, 0, 0] : List Int).set 4 (leN zs6 4)).set 5 (leN zs14 4)).set 6 (leN zs22 4)).set 7 (leN zs30 4)).set 8 (leN zs38 4)).set 9 (leN zs46 4)).set 10 (leN zs54 4)).set 11 (leN zs62 4)).set 12 n).set 13 (leN zs71 4)) (leN zs79 4) (by kernel_rfl) (by kernel_rfl) (by kernel_rfl) rfl (by omega) (by omega) ?_)
  have hl86 : (((((((((((([1634760805, 857760878, 2036477234, 1797285236, 0, 0, 0, 0, 0, 0, 0, 0, 0, 0, 0, 0] : List Int).set 4 (leN zs6 4)).set 5 (leN zs14 4)).set 6 (leN zs22 4)).set 7 (leN zs30 4)).set 8 (leN zs38 4)).set 9 (leN zs46 4)).set 10 (leN zs54 4)).set 11 (leN zs62 4)).set 12 n).set 13 (leN zs71 4)).set 14 (leN zs79 4)).length = ((((((((((([1634760805, 857760878, 2036477234, 1797285236, 0, 0, 0, 0, 0, 0, 0, 0, 0, 0, 0, 0] : List Int).set 4 (leN zs6 4)).set 5 (leN zs14 4)).set 6 (leN zs22 4)).set 7 (leN zs30 4)).set 8 (leN zs38 4)).set 9 (leN zs46 4)).set 10 (leN zs54 4)).set 11 (leN zs62 4)).set 12 n).set 13 (leN zs71 4)).length := List.length_set
  refine RunR.done (by kernel_rfl) ?_
  refine kblock_n ?_
  refine kseq_n ?_
  refine RunC.region ?_
  refine RunR.sil hU [0] 2 2 [1, 6, 7, 9, 25, 26, 27, 28, 29, 30, 31, 32, 33, 34, 35, 36] [(1, .slice A2 ys.length c2), (6, .pointer (some ⟨b3, 0, none⟩)), (7, .pointer (some ⟨b4, 0, none⟩)), (9, .int .i64 1), (25, .int .i64 2), (26, .bool true), (27, .int .i64 1), (28, .int .i64 1), (29, .int .i64 14), (30, .slice A2 ys.length c2), (31, .int .i64 1), (32, .int .i64 4), (33, .slice (subBase A2 4 c2 1) zs79.length (c2 - 4)), (34, .int .u32 (leN zs79 4)), (35, .pointer (some ⟨b4, 14, none⟩)), (36, .int .i64 2)] ((-9223372036854775808 ≤ ((1 : Int) + 1) ∧ ((1 : Int) + 1) < 9223372036854775808) ∧ (True) ∧ True) rfl (by kernel_rfl) ⟨(by decide), trivial, trivial⟩ ?_
  refine RunR.done (by kernel_rfl) ?_
  refine kround_n ?_
  refine RunC.seq ?_
  refine RunC.region ?_
  refine RunR.sil hU [] 1 1 [1, 6, 7, 9, 25, 26, 27, 28, 29, 30, 31, 32, 33, 34, 35, 36] [(1, .slice A2 ys.length c2), (6, .pointer (some ⟨b3, 0, none⟩)), (7, .pointer (some ⟨b4, 0, none⟩)), (9, .int .i64 1), (25, .int .i64 2), (26, .bool true), (27, .int .i64 1), (28, .int .i64 1), (29, .int .i64 14), (30, .slice A2 ys.length c2), (31, .int .i64 1), (32, .int .i64 4), (33, .slice (subBase A2 4 c2 1) zs79.length (c2 - 4)), (34, .int .u32 (leN zs79 4)), (35, .pointer (some ⟨b4, 14, none⟩)), (36, .int .i64 2)] ((True) ∧ True) rfl (by kernel_rfl) ⟨trivial, trivial⟩ ?_
  refine RunR.done (by kernel_rfl) ?_
  refine kseq_n ?_
  refine RunC.seq ?_
  refine RunC.cond (b := true) (by kernel_rfl) (fun _ => ?_) (fun h => by cases h)
  refine RunC.skip ?_
  refine kseq_n ?_
  refine RunC.seq ?_
  refine RunC.block ?_
  refine RunC.seq ?_
  refine RunC.region ?_
  refine RunR.sil hU [] 2 2 [1, 6, 7, 9, 25, 26, 27, 28, 29, 30, 31, 32, 33, 34, 35, 36] [(1, .slice A2 ys.length c2), (6, .pointer (some ⟨b3, 0, none⟩)), (7, .pointer (some ⟨b4, 0, none⟩)), (9, .int .i64 2), (25, .int .i64 2), (26, .bool true), (27, .int .i64 2), (28, .int .i64 1), (29, .int .i64 14), (30, .slice A2 ys.length c2), (31, .int .i64 1), (32, .int .i64 4), (33, .slice (subBase A2 4 c2 1) zs79.length (c2 - 4)), (34, .int .u32 (leN zs79 4)), (35, .pointer (some ⟨b4, 14, none⟩)), (36, .int .i64 2)] ((True) ∧ (True) ∧ True) rfl (by kernel_rfl) ⟨trivial, trivial, trivial⟩ ?_
  refine RunR.done (by kernel_rfl) ?_
  refine kseq_n ?_
  refine RunC.region ?_
  refine RunR.sil hU [1, 4] 6 6 [1, 6, 7, 9, 25, 26, 27, 28, 29, 30, 31, 32, 33, 34, 35, 36] [(1, .slice A2 ys.length c2), (6, .pointer (some ⟨b3, 0, none⟩)), (7, .pointer (some ⟨b4, 0, none⟩)), (9, .int .i64 2), (25, .int .i64 2), (26, .bool true), (27, .int .i64 2), (28, .int .i64 2), (29, .int .i64 15), (30, .slice A2 ys.length c2), (31, .int .i64 2), (32, .int .i64 8), (33, .slice (subBase A2 8 c2 1) (ys.length - 8) (c2 - 8)), (34, .int .u32 (leN zs79 4)), (35, .pointer (some ⟨b4, 14, none⟩)), (36, .int .i64 2)] ((True) ∧ (-9223372036854775808 ≤ ((13 : Int) + 2) ∧ ((13 : Int) + 2) < 9223372036854775808) ∧ (True) ∧ (True) ∧ (-9223372036854775808 ≤ ((4 : Int) * 2) ∧ ((4 : Int) * 2) < 9223372036854775808) ∧ (0 ≤ (8 : Int) ∧ (8 : Int) ≤ ((ys.length : Nat) : Int)) ∧ True) rfl (by kernel_rfl) ⟨trivial, (by decide), trivial, trivial, (by decide), (by omega), trivial⟩ ?_
  obtain ⟨zs87, hz88⟩ : ∃ z : List Int, z = (ys.drop 8).take (ys.length - 8) := ⟨_, rfl⟩
  have hl89 : zs87.length = ys.length - 8 := by rw [hz88, List.length_take, List.length_drop]; omega
  have hB91_t : Tells (vw A2 (nums .u8 ys)) (subBase A2 8 c2 1) (nums .u8 zs87) := by rw [hz88]; exact tells_sub_nums (tells_vw _ _) _ _ _ (by omega) (by omega)
  have hA92 : 0 < zs87.length → Option.isSome (subBase A2 8 c2 1) = true := fun h => part_some (hA2 (by omega)) _ _ _
  refine RunR.env [1, 6, 7, 9, 25, 26, 27, 28, 29, 30, 31, 32, 33, 34, 35, 36] [(1, .slice A2 ys.length c2), (6, .pointer (some ⟨b3, 0, none⟩)), (7, .pointer (some ⟨b4, 0, none⟩)), (9, .int .i64 2), (25, .int .i64 2), (26, .bool true), (27, .int .i64 2), (28, .int .i64 2), (29, .int .i64 15), (30, .slice A2 ys.length c2), (31, .int .i64 2), (32, .int .i64 8), (33, .slice (subBase A2 8 c2 1) (ys.length - 8) (c2 - 8)), (34, .int .u32 (leN zs79 4)), (35, .pointer (some ⟨b4, 14, none⟩)), (36, .int .i64 2)] (by kernel_rfl) ?_
  refine RunR.enveq [(1, .slice A2 ys.length c2), (6, .pointer (some ⟨b3, 0, none⟩)), (7, .pointer (some ⟨b4, 0, none⟩)), (9, .int .i64 2), (25, .int .i64 2), (26, .bool true), (27, .int .i64 2), (28, .int .i64 2), (29, .int .i64 15), (30, .slice A2 ys.length c2), (31, .int .i64 2), (32, .int .i64 8), (33, .slice (subBase A2 8 c2 1) zs87.length (c2 - 8)), (34, .int .u32 (leN zs79 4)), (35, .pointer (some ⟨b4, 14, none⟩)), (36, .int .i64 2)] (by rw [hl89]) ?_
  have hr93 : In .u8 zs87 := by rw [hz88]; exact (hy.drop _).take _
  refine RunR.step (dst := some 34) (op := .call { callee := .value (.func 73), args := #[.tmp 33], argTypes := #[22] }) (by kernel_rfl) (Step.call 73 [.slice (subBase A2 8 c2 1) zs87.length (c2 - 8)] (by kernel_rfl) (by kernel_rfl) [] [vw (subBase A2 8 c2 1) (nums .u8 zs87)] [blk b4 87 (nums .u32 (((((((((((([1634760805, 857760878, 2036477234, 1797285236, 0, 0, 0, 0, 0, 0, 0, 0, 0, 0, 0, 0] : List Int).set 4 (leN zs6 4)).set 5 (leN zs14 4)).set 6 (leN zs22 4)).set 7 (leN zs30 4)).set 8 (leN zs38 4)).set 9 (leN zs46 4)).set 10 (leN zs54 4)).set 11 (leN zs62 4)).set 12 n).set 13 (leN zs71 4)).set 14 (leN zs79 4))), blk b3 87 (nums .u32 (List.replicate 16 (0 : Int))), vw A (nums .u8 xs), vw A2 (nums .u8 ys)] (w_Get32_spec (subBase A2 8 c2 1) (c2 - 8) zs87 zs87.length hr93 (by first | assumption | omega | (simp only [List.length_append, List.length_cons, List.length_nil, List.length_set, List.length_replicate, List.length_take, List.length_drop]; omega) | (simp only [fits] at *; omega) | (simp only [List.length_append, List.length_cons, List.length_nil, List.length_set, List.length_replicate, List.length_take, List.length_drop] at *; omega) | (simp; done) | decide) (by first | rfl | assumption | omega | (simp only [List.length_append, List.length_cons, List.length_nil, List.length_set, List.length_replicate, List.length_take, List.length_drop]; omega) | (simp; done))) [] (by kernel_rfl) ((Lend.nil _).tells 3 (vw A2 (nums .u8 ys)) (subBase A2 8 c2 1) (nums .u8 zs87) (by kernel_rfl) (hB91_t)) ?_)
  rintro _ _ ⟨rfl, rfl⟩
  refine RunR.sil hU [] 1 8 [1, 6, 7, 9, 25, 26, 27, 28, 29, 30, 31, 32, 33, 34, 35, 36] [(1, .slice A2 ys.length c2), (6, .pointer (some ⟨b3, 0, none⟩)), (7, .pointer (some ⟨b4, 0, none⟩)), (9, .int .i64 2), (25, .int .i64 2), (26, .bool true), (27, .int .i64 2), (28, .int .i64 2), (29, .int .i64 15), (30, .slice A2 ys.length c2), (31, .int .i64 2), (32, .int .i64 8), (33, .slice (subBase A2 8 c2 1) zs87.length (c2 - 8)), (34, .int .u32 (leN zs87 4)), (35, .pointer (some ⟨b4, 15, none⟩)), (36, .int .i64 2)] ((0 ≤ (15 : Int) ∧ (15 : Int) < ((16 : Nat) : Int)) ∧ True) rfl (by kernel_rfl) ⟨(by omega), trivial⟩ ?_
  refine RunR.step (dst := none) (op := .store 23 (.tmp 35) (.tmp 34)) (by kernel_rfl) (Step.store_blknum hU 0 b4 (15) 87 15 .u32 (((((((((((([1634760805, 857760878, 2036477234, 1797285236, 0, 0, 0, 0, 0, 0, 0, 0, 0, 0, 0, 0] : List Int).set 4 (leN zs6 4)).set 5 (leN zs14 4)).set 6 (leN zs22 4)).set 7 (leN zs30 4)).set 8 (leN zs38 4)).set 9 (leN zs46 4)).set 10 (leN zs54 4)).set 11 (leN zs62 4)).set 12 n).set 13 (leN zs71 4)).set 14 (leN zs79 4)) (leN zs87 4) (by kernel_rfl) (by kernel_rfl) (by kernel_rfl) rfl (by omega) (by omega) ?_)
  have hl94 : ((((((((((((([1634760805, 857760878, 2036477234, 1797285236, 0, 0, 0, 0, 0, 0, 0, 0, 0, 0, 0, 0] : List Int).set 4 (leN zs6 4)).set 5 (leN zs14 4)).set 6 (leN zs22 4)).set 7 (leN zs30 4)).set 8 (leN zs38 4)).set 9 (leN zs46 4)).set 10 (leN zs54 4)).set 11 (leN zs62 4)).set 12 n).set 13 (leN zs71 4)).set 14 (leN zs79 4)).set 15 (leN zs87 4)).length = (((((((((((([1634760805, 857760878, 2036477234, 1797285236, 0, 0, 0, 0, 0, 0, 0, 0, 0, 0, 0, 0] : List Int).set 4 (leN zs6 4)).set 5 (leN zs14 4)).set 6 (leN zs22 4)).set 7 (leN zs30 4)).set 8 (leN zs38 4)).set 9 (leN zs46 4)).set 10 (leN zs54 4)).set 11 (leN zs62 4)).set 12 n).set 13 (leN zs71 4)).set 14 (leN zs79 4)).length := List.length_set
  refine RunR.done (by kernel_rfl) ?_
  refine kblock_n ?_
  refine kseq_n ?_
  refine RunC.region ?_
  refine RunR.sil hU [0] 2 2 [1, 6, 7, 9, 25, 26, 27, 28, 29, 30, 31, 32, 33, 34, 35, 36] [(1, .slice A2 ys.length c2), (6, .pointer (some ⟨b3, 0, none⟩)), (7, .pointer (some ⟨b4, 0, none⟩)), (9, .int .i64 2), (25, .int .i64 3), (26, .bool true), (27, .int .i64 2), (28, .int .i64 2), (29, .int .i64 15), (30, .slice A2 ys.length c2), (31, .int .i64 2), (32, .int .i64 8), (33, .slice (subBase A2 8 c2 1) zs87.length (c2 - 8)), (34, .int .u32 (leN zs87 4)), (35, .pointer (some ⟨b4, 15, none⟩)), (36, .int .i64 3)] ((-9223372036854775808 ≤ ((2 : Int) + 1) ∧ ((2 : Int) + 1) < 9223372036854775808) ∧ (True) ∧ True) rfl (by kernel_rfl) ⟨(by decide), trivial, trivial⟩ ?_
  refine RunR.done (by kernel_rfl) ?_
  refine kround_n ?_
  refine RunC.seq ?_
  refine RunC.region ?_
  refine RunR.sil hU [] 1 1 [1, 6, 7, 9, 25, 26, 27, 28, 29, 30, 31, 32, 33, 34, 35, 36] [(1, .slice A2 ys.length c2), (6, .pointer (some ⟨b3, 0, none⟩)), (7, .pointer (some ⟨b4, 0, none⟩)), (9, .int .i64 2), (25, .int .i64 3), (26, .bool false), (27, .int .i64 2), (28, .int .i64 2), (29, .int .i64 15), (30, .slice A2 ys.length c2), (31, .int .i64 2), (32, .int .i64 8), (33, .slice (subBase A2 8 c2 1) zs87.length (c2 - 8)), (34, .int .u32 (leN zs87 4)), (35, .pointer (some ⟨b4, 15, none⟩)), (36, .int .i64 3)] ((True) ∧ True) rfl (by kernel_rfl) ⟨trivial, trivial⟩ ?_
  refine RunR.done (by kernel_rfl) ?_
  refine kseq_n ?_
  refine RunC.seq ?_
  refine RunC.cond (b := false) (by kernel_rfl) (fun h => by cases h) (fun _ => ?_)
  refine RunC.exit ?_
  refine kseq_e ?_
  refine kround_e ?_
  refine kblock_e ?_
  refine kseq_n ?_
  refine RunC.seq ?_
  refine RunC.region ?_
  refine RunR.step (dst := some 37) (op := .load 87 (.tmp 7)) (by kernel_rfl) (Step.load_arr hU 0 b4 87 16 .u32 ((((((((((((([1634760805, 857760878, 2036477234, 1797285236, 0, 0, 0, 0, 0, 0, 0, 0, 0, 0, 0, 0] : List Int).set 4 (leN zs6 4)).set 5 (leN zs14 4)).set 6 (leN zs22 4)).set 7 (leN zs30 4)).set 8 (leN zs38 4)).set 9 (leN zs46 4)).set 10 (leN zs54 4)).set 11 (leN zs62 4)).set 12 n).set 13 (leN zs71 4)).set 14 (leN zs79 4)).set 15 (leN zs87 4)) (by kernel_rfl) (by kernel_rfl) (by kernel_rfl) (by kernel_rfl) (by first | rfl | omega | (simp; done)) (by kernel_rfl) ?_)
  refine RunR.step (dst := none) (op := .store 87 (.tmp 6) (.tmp 37)) (by kernel_rfl) (Step.store_arr hU 1 b3 87 16 .u32 (List.replicate 16 (0 : Int)) ((((((((((((([1634760805, 857760878, 2036477234, 1797285236, 0, 0, 0, 0, 0, 0, 0, 0, 0, 0, 0, 0] : List Int).set 4 (leN zs6 4)).set 5 (leN zs14 4)).set 6 (leN zs22 4)).set 7 (leN zs30 4)).set 8 (leN zs38 4)).set 9 (leN zs46 4)).set 10 (leN zs54 4)).set 11 (leN zs62 4)).set 12 n).set 13 (leN zs71 4)).set 14 (leN zs79 4)).set 15 (leN zs87 4)) (by kernel_rfl) (by kernel_rfl) (by kernel_rfl) (by kernel_rfl) (by first | rfl | omega | (simp; done)) (by first | rfl | omega | (simp; done)) ?_)
  refine RunR.done (by kernel_rfl) ?_
  refine kseq_n ?_
  refine RunC.ret ?_
  refine kret_r [.agg (nums .u32 ((((((((((((([1634760805, 857760878, 2036477234, 1797285236, 0, 0, 0, 0, 0, 0, 0, 0, 0, 0, 0, 0] : List Int).set 4 (leN zs6 4)).set 5 (leN zs14 4)).set 6 (leN zs22 4)).set 7 (leN zs30 4)).set 8 (leN zs38 4)).set 9 (leN zs46 4)).set 10 (leN zs54 4)).set 11 (leN zs62 4)).set 12 n).set 13 (leN zs71 4)).set 14 (leN zs79 4)).set 15 (leN zs87 4))).toArray] [] [] ⟨⟨0, b3, 0, 87, nums .u32 ((((((((((((([1634760805, 857760878, 2036477234, 1797285236, 0, 0, 0, 0, 0, 0, 0, 0, 0, 0, 0, 0] : List Int).set 4 (leN zs6 4)).set 5 (leN zs14 4)).set 6 (leN zs22 4)).set 7 (leN zs30 4)).set 8 (leN zs38 4)).set 9 (leN zs46 4)).set 10 (leN zs54 4)).set 11 (leN zs62 4)).set 12 n).set 13 (leN zs71 4)).set 14 (leN zs79 4)).set 15 (leN zs87 4)), rfl, rfl, by kernel_rfl⟩, trivial⟩ (by kernel_rfl) rfl ⟨((((((((((((([1634760805, 857760878, 2036477234, 1797285236, 0, 0, 0, 0, 0, 0, 0, 0, 0, 0, 0, 0] : List Int).set 4 (leN zs6 4)).set 5 (leN zs14 4)).set 6 (leN zs22 4)).set 7 (leN zs30 4)).set 8 (leN zs38 4)).set 9 (leN zs46 4)).set 10 (leN zs54 4)).set 11 (leN zs62 4)).set 12 n).set 13 (leN zs71 4)).set 14 (leN zs79 4)).set 15 (leN zs87 4)), rfl, rfl, (by subst_vars; simp [begin_, kw, List.take_of_length_le, hxl, hyl, List.range, List.range.loop]), (by simp)⟩
end Go.Proofs.Ytoaoabnhkiijpaa.V2
