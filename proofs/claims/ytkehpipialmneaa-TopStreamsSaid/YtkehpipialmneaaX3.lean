/- What these functions compute: a contract for each, walked through its code. -/
import Derived.Test.YtkehpipialmneaaSLzn
import Derived.Test.YtkehpipialmneaaBPure
import Derived.Test.YtkehpipialmneaaProg
import Derived.Test.YtkehpipialmneaaX1
import Derived.Test.YtkehpipialmneaaX2
namespace Go.Proofs.Ytkehpipialmneaa.X3
open Go Go.Proofs.Ytkehpipialmneaa.SL Go.Proofs.Ytkehpipialmneaa.SL.W Go.Proofs.Ytkehpipialmneaa.SL.C Go.Proofs.Ytkehpipialmneaa.SL.H Go.Proofs.Ytkehpipialmneaa.SL.M Go.Proofs.Ytkehpipialmneaa.SL.Y Go.Proofs.Ytkehpipialmneaa.SL.A Go.Proofs.Ytkehpipialmneaa.SL.B Go.Proofs.Ytkehpipialmneaa.X1 Go.Proofs.Ytkehpipialmneaa.X2
set_option linter.unusedVariables false
set_option linter.unusedSimpArgs false
set_option maxRecDepth 100000
set_option maxHeartbeats 40000000
def U : Tab where
  und := [(3, .int .i64), (5, .int .u8), (24, .slice 5), (53, .int .u32), (104, .array 16 53), (105, .array 16 53), (107, .array 4 3), (108, .array 8 107)]
  fld := []
  sz := [(3, 1), (5, 1), (24, 1), (53, 1), (104, 16), (105, 16), (107, 4), (108, 32)]
  ti := [(3, (1, 8, .int .i64 0)), (5, (1, 1, .int .u8 0)), (24, (1, 24, .slice none 0 0)), (53, (1, 4, .int .u32 0)), (104, (16, 64, .agg #[.int .u32 0, .int .u32 0, .int .u32 0, .int .u32 0, .int .u32 0, .int .u32 0, .int .u32 0, .int .u32 0, .int .u32 0, .int .u32 0, .int .u32 0, .int .u32 0, .int .u32 0, .int .u32 0, .int .u32 0, .int .u32 0])), (105, (16, 64, .agg #[.int .u32 0, .int .u32 0, .int .u32 0, .int .u32 0, .int .u32 0, .int .u32 0, .int .u32 0, .int .u32 0, .int .u32 0, .int .u32 0, .int .u32 0, .int .u32 0, .int .u32 0, .int .u32 0, .int .u32 0, .int .u32 0])), (107, (4, 32, .agg #[.int .i64 0, .int .i64 0, .int .i64 0, .int .i64 0])), (108, (32, 256, z32))]
  bld := []

theorem hU : U.OK Try.prog where
  und := by
    intro p hp
    simp only [U, List.mem_cons, List.not_mem_nil, or_false] at hp
    rcases hp with rfl | rfl | rfl | rfl | rfl | rfl | rfl | rfl
    · exact Try.underlying3
    · exact Try.underlying5
    · exact Try.underlying24
    · exact Try.underlying53
    · exact Try.underlying104
    · exact Try.underlying105
    · exact Try.underlying107
    · exact Try.underlying108
  fld := by
    intro p hp; cases hp
  sz := by
    intro p hp
    simp only [U, List.mem_cons, List.not_mem_nil, or_false] at hp
    rcases hp with rfl | rfl | rfl | rfl | rfl | rfl | rfl | rfl
    · exact ⟨Try.prog.types[3]!, by kernel_rfl, by kernel_rfl⟩
    · exact ⟨Try.prog.types[5]!, by kernel_rfl, by kernel_rfl⟩
    · exact ⟨Try.prog.types[24]!, by kernel_rfl, by kernel_rfl⟩
    · exact ⟨Try.prog.types[53]!, by kernel_rfl, by kernel_rfl⟩
    · exact ⟨Try.prog.types[104]!, by kernel_rfl, by kernel_rfl⟩
    · exact ⟨Try.prog.types[105]!, by kernel_rfl, by kernel_rfl⟩
    · exact ⟨Try.prog.types[107]!, by kernel_rfl, by kernel_rfl⟩
    · exact ⟨Try.prog.types[108]!, by kernel_rfl, by kernel_rfl⟩
  ti := by
    intro p hp
    simp only [U, List.mem_cons, List.not_mem_nil, or_false] at hp
    rcases hp with rfl | rfl | rfl | rfl | rfl | rfl | rfl | rfl
    · exact ⟨Try.prog.types[3]!, by kernel_rfl, by kernel_rfl, by kernel_rfl, by kernel_rfl⟩
    · exact ⟨Try.prog.types[5]!, by kernel_rfl, by kernel_rfl, by kernel_rfl, by kernel_rfl⟩
    · exact ⟨Try.prog.types[24]!, by kernel_rfl, by kernel_rfl, by kernel_rfl, by kernel_rfl⟩
    · exact ⟨Try.prog.types[53]!, by kernel_rfl, by kernel_rfl, by kernel_rfl, by kernel_rfl⟩
    · exact ⟨Try.prog.types[104]!, by kernel_rfl, by kernel_rfl, by kernel_rfl, by kernel_rfl⟩
    · exact ⟨Try.prog.types[105]!, by kernel_rfl, by kernel_rfl, by kernel_rfl, by kernel_rfl⟩
    · exact ⟨Try.prog.types[107]!, by kernel_rfl, by kernel_rfl, by kernel_rfl, by kernel_rfl⟩
    · exact ⟨Try.prog.types[108]!, by kernel_rfl, by kernel_rfl, by kernel_rfl, by kernel_rfl⟩
  bld := by
    intro p hp; cases hp
  mixed := by kernel_rfl

theorem c_half_spec (p : Nat) (xs : List Int) (a : Int) (b : Int) (d : Int) (k : Int) (hl : xs.length = 16) (ha : 0 ≤ a ∧ a < 16) (hb : 0 ≤ b ∧ b < 16) (hd : 0 ≤ d ∧ d < 16) (hk : 0 ≤ k ∧ k < 32) :
    CallsS Try.prog 90 [pt p, .int .i64 a, .int .i64 b, .int .i64 d, .int .i64 k] [blk p 105 (nums .u32 xs)] (fun r D => ∃ (zs : List Int), r = .tuple #[] ∧ D = [blk p 105 (nums .u32 zs)] ∧ (zs = half xs a b d k) ∧ (zs.length = 16)) := by
  refine CallsS.enter hU Try.f90 _ [] 40 Try.func90 rfl (by decide) rfl rfl (by kernel_rfl) fun w0 W => ?_
  refine RunC.seq ?_
  refine RunC.regionU hU 14 [blk p 105 (nums .u32 xs)] [0] [12, 13] (bm 14 0) (by kernel_rfl) (by kernel_rfl) (by kernel_rfl) ?_
  refine RunU.sl hU 0 (bm 14 1) 10 (pt p) ?_
  refine RunU.sl hU 1 (bm 14 3) 11 (.int .i64 a) ?_
  refine RunU.sl hU 2 (bm 14 7) 12 (pt p) ?_
  refine RunU.sil hU false 3 (bm 14 15) 13 (.pointer (some ⟨p, 0 + (a).toNat * 1, none⟩)) (0 ≤ a ∧ a < ((16 : Nat) : Int)) (by kernel_rfl) (by omega) (by kernel_rfl) (by kernel_rfl) (fun _ _ _ h => h) ?_
  refine RunU.rd 4 (bm 14 31) 14 (.load 53 (.tmp 13)) (.int .u32 (xs.getD ((a).toNat) 0)) [0] (Reads.load_blknum hU 0 p (0 + (a).toNat * 1) 105 ((a).toNat) .u32 xs rfl (by kernel_rfl) (by kernel_rfl) (by omega) (by omega)) ?_
  refine RunU.sl hU 5 (bm 14 63) 15 (pt p) ?_
  refine RunU.sl hU 6 (bm 14 127) 16 (.int .i64 b) ?_
  refine RunU.sl hU 7 (bm 14 255) 17 (pt p) ?_
  refine RunU.sil hU false 8 (bm 14 511) 18 (.pointer (some ⟨p, 0 + (b).toNat * 1, none⟩)) (0 ≤ b ∧ b < ((16 : Nat) : Int)) (by kernel_rfl) (by omega) (by kernel_rfl) (by kernel_rfl) (fun _ _ _ h => h) ?_
  refine RunU.rd 9 (bm 14 1023) 19 (.load 53 (.tmp 18)) (.int .u32 (xs.getD ((b).toNat) 0)) [0] (Reads.load_blknum hU 0 p (0 + (b).toNat * 1) 105 ((b).toNat) .u32 xs rfl (by kernel_rfl) (by kernel_rfl) (by omega) (by omega)) ?_
  refine RunU.sl hU 10 (bm 14 2047) 20 (.int .u32 (IntKind.wrap .u32 ((xs.getD ((a).toNat) 0) + (xs.getD ((b).toNat) 0)))) ?_
  refine RunU.sl hU 11 (bm 14 4095) 21 (pt p) ?_
  refine RunU.sil hU false 12 (bm 14 8191) 22 (.pointer (some ⟨p, 0 + (a).toNat * 1, none⟩)) (0 ≤ a ∧ a < ((16 : Nat) : Int)) (by kernel_rfl) (by omega) (by kernel_rfl) (by kernel_rfl) (fun _ _ _ h => h) ?_
  refine RunU.on none (.store 53 (.tmp 22) (.tmp 20)) 13 (bm 14 16383) [] (Step.store_blknum hU 0 p (0 + (a).toNat * 1) 105 ((a).toNat) .u32 xs (IntKind.wrap .u32 ((xs.getD ((a).toNat) 0) + (xs.getD ((b).toNat) 0))) (by kernel_rfl) (by kernel_rfl) (by kernel_rfl) rfl (by omega) (by omega) ?_)
  have hl1 : (xs.set ((a).toNat) (IntKind.wrap .u32 ((xs.getD ((a).toNat) 0) + (xs.getD ((b).toNat) 0)))).length = xs.length := List.length_set
  refine orR ?_
  refine RunU.ev [0, 1, 3, 4] [(0, pt p), (1, .int .i64 a), (3, .int .i64 d), (4, .int .i64 k)] ?_
  refine RunU.dn ?_
  refine kseq_n ?_
  refine RunC.regionU hU 18 [blk p 105 (nums .u32 (xs.set ((a).toNat) (IntKind.wrap .u32 ((xs.getD ((a).toNat) 0) + (xs.getD ((b).toNat) 0)))))] [0] [14, 16, 17] (bm 18 0) (by kernel_rfl) (by kernel_rfl) (by kernel_rfl) ?_
  refine RunU.sl hU 0 (bm 18 1) 23 (pt p) ?_
  refine RunU.sl hU 1 (bm 18 3) 24 (.int .i64 d) ?_
  refine RunU.sl hU 2 (bm 18 7) 25 (pt p) ?_
  refine RunU.sl hU 3 (bm 18 15) 26 (.int .i64 d) ?_
  refine RunU.sl hU 4 (bm 18 31) 27 (pt p) ?_
  refine RunU.sil hU false 5 (bm 18 63) 28 (.pointer (some ⟨p, 0 + (d).toNat * 1, none⟩)) (0 ≤ d ∧ d < ((16 : Nat) : Int)) (by kernel_rfl) (by omega) (by kernel_rfl) (by kernel_rfl) (fun _ _ _ h => h) ?_
  refine RunU.rd 6 (bm 18 127) 29 (.load 53 (.tmp 28)) (.int .u32 ((xs.set ((a).toNat) (IntKind.wrap .u32 ((xs.getD ((a).toNat) 0) + (xs.getD ((b).toNat) 0)))).getD ((d).toNat) 0)) [0] (Reads.load_blknum hU 0 p (0 + (d).toNat * 1) 105 ((d).toNat) .u32 (xs.set ((a).toNat) (IntKind.wrap .u32 ((xs.getD ((a).toNat) 0) + (xs.getD ((b).toNat) 0)))) rfl (by kernel_rfl) (by kernel_rfl) (by omega) (by omega)) ?_
  refine RunU.sl hU 7 (bm 18 255) 30 (pt p) ?_
  refine RunU.sl hU 8 (bm 18 511) 31 (.int .i64 a) ?_
  refine RunU.sl hU 9 (bm 18 1023) 32 (pt p) ?_
  refine RunU.sil hU false 10 (bm 18 2047) 33 (.pointer (some ⟨p, 0 + (a).toNat * 1, none⟩)) (0 ≤ a ∧ a < ((16 : Nat) : Int)) (by kernel_rfl) (by omega) (by kernel_rfl) (by kernel_rfl) (fun _ _ _ h => h) ?_
  refine RunU.rd 11 (bm 18 4095) 34 (.load 53 (.tmp 33)) (.int .u32 ((xs.set ((a).toNat) (IntKind.wrap .u32 ((xs.getD ((a).toNat) 0) + (xs.getD ((b).toNat) 0)))).getD ((a).toNat) 0)) [0] (Reads.load_blknum hU 0 p (0 + (a).toNat * 1) 105 ((a).toNat) .u32 (xs.set ((a).toNat) (IntKind.wrap .u32 ((xs.getD ((a).toNat) 0) + (xs.getD ((b).toNat) 0)))) rfl (by kernel_rfl) (by kernel_rfl) (by omega) (by omega)) ?_
  refine RunU.sl hU 12 (bm 18 8191) 35 (.int .u32 (bits2 .xor .u32 ((xs.set ((a).toNat) (IntKind.wrap .u32 ((xs.getD ((a).toNat) 0) + (xs.getD ((b).toNat) 0)))).getD ((d).toNat) 0) ((xs.set ((a).toNat) (IntKind.wrap .u32 ((xs.getD ((a).toNat) 0) + (xs.getD ((b).toNat) 0)))).getD ((a).toNat) 0))) ?_
  refine RunU.sl hU 13 (bm 18 16383) 36 (.int .i64 k) ?_
  refine RunU.sl hU 15 (bm 18 49151) 38 (pt p) ?_
  refine RunU.on (some 37) (.call { callee := .value (.func 96), args := #[.tmp 35, .tmp 36], argTypes := #[53, 3] }) 14 (bm 18 65535) [] (Step.cn 96 [.int .u32 (bits2 .xor .u32 ((xs.set ((a).toNat) (IntKind.wrap .u32 ((xs.getD ((a).toNat) 0) + (xs.getD ((b).toNat) 0)))).getD ((d).toNat) 0) ((xs.set ((a).toNat) (IntKind.wrap .u32 ((xs.getD ((a).toNat) 0) + (xs.getD ((b).toNat) 0)))).getD ((a).toNat) 0)), .int .i64 k] [] [blk p 105 (nums .u32 (xs.set ((a).toNat) (IntKind.wrap .u32 ((xs.getD ((a).toNat) 0) + (xs.getD ((b).toNat) 0)))))] (c_rot_spec (bits2 .xor .u32 ((xs.set ((a).toNat) (IntKind.wrap .u32 ((xs.getD ((a).toNat) 0) + (xs.getD ((b).toNat) 0)))).getD ((d).toNat) 0) ((xs.set ((a).toNat) (IntKind.wrap .u32 ((xs.getD ((a).toNat) 0) + (xs.getD ((b).toNat) 0)))).getD ((a).toNat) 0)) k (by omega) (by omega)) [] ?_)
  rintro _ _ ⟨rfl, rfl⟩
  refine orR ?_
  refine RunU.sil hU false 16 (bm 18 131071) 39 (.pointer (some ⟨p, 0 + (d).toNat * 1, none⟩)) (0 ≤ d ∧ d < ((16 : Nat) : Int)) (by kernel_rfl) (by omega) (by kernel_rfl) (by kernel_rfl) (fun _ _ _ h => h) ?_
  refine RunU.on none (.store 53 (.tmp 39) (.tmp 37)) 17 (bm 18 262143) [] (Step.store_blknum hU 0 p (0 + (d).toNat * 1) 105 ((d).toNat) .u32 (xs.set ((a).toNat) (IntKind.wrap .u32 ((xs.getD ((a).toNat) 0) + (xs.getD ((b).toNat) 0)))) (rotl (bits2 .xor .u32 ((xs.set ((a).toNat) (IntKind.wrap .u32 ((xs.getD ((a).toNat) 0) + (xs.getD ((b).toNat) 0)))).getD ((d).toNat) 0) ((xs.set ((a).toNat) (IntKind.wrap .u32 ((xs.getD ((a).toNat) 0) + (xs.getD ((b).toNat) 0)))).getD ((a).toNat) 0)) k) (by kernel_rfl) (by kernel_rfl) (by kernel_rfl) rfl (by omega) (by omega) ?_)
  have hl2 : ((xs.set ((a).toNat) (IntKind.wrap .u32 ((xs.getD ((a).toNat) 0) + (xs.getD ((b).toNat) 0)))).set ((d).toNat) (rotl (bits2 .xor .u32 ((xs.set ((a).toNat) (IntKind.wrap .u32 ((xs.getD ((a).toNat) 0) + (xs.getD ((b).toNat) 0)))).getD ((d).toNat) 0) ((xs.set ((a).toNat) (IntKind.wrap .u32 ((xs.getD ((a).toNat) 0) + (xs.getD ((b).toNat) 0)))).getD ((a).toNat) 0)) k)).length = (xs.set ((a).toNat) (IntKind.wrap .u32 ((xs.getD ((a).toNat) 0) + (xs.getD ((b).toNat) 0)))).length := List.length_set
  refine orR ?_
  refine RunU.ev [] [] ?_
  refine RunU.dn ?_
  refine kret_n [] [0] [blk p 105 (nums .u32 ((xs.set ((a).toNat) (IntKind.wrap .u32 ((xs.getD ((a).toNat) 0) + (xs.getD ((b).toNat) 0)))).set ((d).toNat) (rotl (bits2 .xor .u32 ((xs.set ((a).toNat) (IntKind.wrap .u32 ((xs.getD ((a).toNat) 0) + (xs.getD ((b).toNat) 0)))).getD ((d).toNat) 0) ((xs.set ((a).toNat) (IntKind.wrap .u32 ((xs.getD ((a).toNat) 0) + (xs.getD ((b).toNat) 0)))).getD ((a).toNat) 0)) k)))] trivial (by kernel_rfl) rfl ⟨((xs.set ((a).toNat) (IntKind.wrap .u32 ((xs.getD ((a).toNat) 0) + (xs.getD ((b).toNat) 0)))).set ((d).toNat) (rotl (bits2 .xor .u32 ((xs.set ((a).toNat) (IntKind.wrap .u32 ((xs.getD ((a).toNat) 0) + (xs.getD ((b).toNat) 0)))).getD ((d).toNat) 0) ((xs.set ((a).toNat) (IntKind.wrap .u32 ((xs.getD ((a).toNat) 0) + (xs.getD ((b).toNat) 0)))).getD ((a).toNat) 0)) k)), rfl, rfl, (by rfl), (by simpa using hl)⟩

theorem c_quarter_spec (p : Nat) (xs : List Int) (q0 : Int) (q1 : Int) (q2 : Int) (q3 : Int) (hl : xs.length = 16) (hq0 : 0 ≤ q0 ∧ q0 < 16) (hq1 : 0 ≤ q1 ∧ q1 < 16) (hq2 : 0 ≤ q2 ∧ q2 < 16) (hq3 : 0 ≤ q3 ∧ q3 < 16) :
    CallsS Try.prog 62 [pt p, .agg #[.int .i64 q0, .int .i64 q1, .int .i64 q2, .int .i64 q3]] [blk p 105 (nums .u32 xs)] (fun r D => ∃ (zs : List Int), r = .tuple #[] ∧ D = [blk p 105 (nums .u32 zs)] ∧ (zs = quarter xs q0 q1 q2 q3) ∧ (zs.length = 16)) := by
  refine CallsS.enter hU Try.f62 _ [] 36 Try.func62 rfl (by decide) rfl rfl (by kernel_rfl) fun w0 W => ?_
  refine RunC.sr ?_
  refine RunR.st (some 3) (.box 107 (.tmp 1)) (Step.box (.agg #[.int .i64 q0, .int .i64 q1, .int .i64 q2, .int .i64 q3]) (by kernel_rfl) (by kernel_rfl) (fun b1 => ?_))
  refine RunR.nx ?_
  refine RunR.sil hU [] 2 2 [0, 3, 4, 5] [(0, pt p), (3, pt b1), (4, pt p), (5, pt b1)] ((True) ∧ (0 ≤ (0 : Int) ∧ (0 : Int) < ((4 : Nat) : Int)) ∧ True) rfl (by kernel_rfl) ⟨trivial, (by omega), trivial⟩ ?_
  refine RunR.st (some 6) (.load 3 (.tmp 5)) (Step.load_blk hU 0 b1 (0) 107 [.int .i64 q0, .int .i64 q1, .int .i64 q2, .int .i64 q3] (.int .i64 q0) (by kernel_rfl) (by kernel_rfl) (by kernel_rfl) (by kernel_rfl) ?_)
  refine RunR.sil hU [] 1 4 [0, 3, 4, 6, 7] [(0, pt p), (3, pt b1), (4, pt p), (6, .int .i64 q0), (7, .pointer (some ⟨b1, 1, none⟩))] ((0 ≤ (1 : Int) ∧ (1 : Int) < ((4 : Nat) : Int)) ∧ True) rfl (by kernel_rfl) ⟨(by omega), trivial⟩ ?_
  refine RunR.st (some 8) (.load 3 (.tmp 7)) (Step.load_blk hU 0 b1 (1) 107 [.int .i64 q0, .int .i64 q1, .int .i64 q2, .int .i64 q3] (.int .i64 q1) (by kernel_rfl) (by kernel_rfl) (by kernel_rfl) (by kernel_rfl) ?_)
  refine RunR.sil hU [] 1 6 [0, 3, 4, 6, 8, 9] [(0, pt p), (3, pt b1), (4, pt p), (6, .int .i64 q0), (8, .int .i64 q1), (9, .pointer (some ⟨b1, 3, none⟩))] ((0 ≤ (3 : Int) ∧ (3 : Int) < ((4 : Nat) : Int)) ∧ True) rfl (by kernel_rfl) ⟨(by omega), trivial⟩ ?_
  refine RunR.st (some 10) (.load 3 (.tmp 9)) (Step.load_blk hU 0 b1 (3) 107 [.int .i64 q0, .int .i64 q1, .int .i64 q2, .int .i64 q3] (.int .i64 q3) (by kernel_rfl) (by kernel_rfl) (by kernel_rfl) (by kernel_rfl) ?_)
  refine RunR.st (some 11) (.call { callee := .value (.func 90), args := #[.tmp 4, .tmp 6, .tmp 8, .tmp 10, .const (.int .i64 16)], argTypes := #[133, 3, 3, 3, 3] }) (Step.cn 90 [pt p, .int .i64 q0, .int .i64 q1, .int .i64 q3, .int .i64 16] [blk p 105 (nums .u32 xs)] [blk b1 107 [.int .i64 q0, .int .i64 q1, .int .i64 q2, .int .i64 q3]] (c_half_spec p xs q0 q1 q3 16 (by assumption) (by assumption) (by assumption) (by assumption) (by omega)) [1] ?_)
  rintro _ _ ⟨zs2, rfl, rfl, hp3, hp4⟩
  refine RunR.nx ?_
  refine RunR.sil hU [] 2 2 [0, 3, 12, 13] [(0, pt p), (3, pt b1), (12, pt p), (13, .pointer (some ⟨b1, 2, none⟩))] ((True) ∧ (0 ≤ (2 : Int) ∧ (2 : Int) < ((4 : Nat) : Int)) ∧ True) rfl (by kernel_rfl) ⟨trivial, (by omega), trivial⟩ ?_
  refine RunR.st (some 14) (.load 3 (.tmp 13)) (Step.load_blk hU 1 b1 (2) 107 [.int .i64 q0, .int .i64 q1, .int .i64 q2, .int .i64 q3] (.int .i64 q2) (by kernel_rfl) (by kernel_rfl) (by kernel_rfl) (by kernel_rfl) ?_)
  refine RunR.sil hU [] 1 4 [0, 3, 12, 14, 15] [(0, pt p), (3, pt b1), (12, pt p), (14, .int .i64 q2), (15, .pointer (some ⟨b1, 3, none⟩))] ((0 ≤ (3 : Int) ∧ (3 : Int) < ((4 : Nat) : Int)) ∧ True) rfl (by kernel_rfl) ⟨(by omega), trivial⟩ ?_
  refine RunR.st (some 16) (.load 3 (.tmp 15)) (Step.load_blk hU 1 b1 (3) 107 [.int .i64 q0, .int .i64 q1, .int .i64 q2, .int .i64 q3] (.int .i64 q3) (by kernel_rfl) (by kernel_rfl) (by kernel_rfl) (by kernel_rfl) ?_)
  refine RunR.sil hU [] 1 6 [0, 3, 12, 14, 16, 17] [(0, pt p), (3, pt b1), (12, pt p), (14, .int .i64 q2), (16, .int .i64 q3), (17, .pointer (some ⟨b1, 1, none⟩))] ((0 ≤ (1 : Int) ∧ (1 : Int) < ((4 : Nat) : Int)) ∧ True) rfl (by kernel_rfl) ⟨(by omega), trivial⟩ ?_
  refine RunR.st (some 18) (.load 3 (.tmp 17)) (Step.load_blk hU 1 b1 (1) 107 [.int .i64 q0, .int .i64 q1, .int .i64 q2, .int .i64 q3] (.int .i64 q1) (by kernel_rfl) (by kernel_rfl) (by kernel_rfl) (by kernel_rfl) ?_)
  refine RunR.st (some 19) (.call { callee := .value (.func 90), args := #[.tmp 12, .tmp 14, .tmp 16, .tmp 18, .const (.int .i64 12)], argTypes := #[133, 3, 3, 3, 3] }) (Step.cn 90 [pt p, .int .i64 q2, .int .i64 q3, .int .i64 q1, .int .i64 12] [blk p 105 (nums .u32 zs2)] [blk b1 107 [.int .i64 q0, .int .i64 q1, .int .i64 q2, .int .i64 q3]] (c_half_spec p zs2 q2 q3 q1 12 (by assumption) (by assumption) (by assumption) (by assumption) (by omega)) [0] ?_)
  rintro _ _ ⟨zs5, rfl, rfl, hp6, hp7⟩
  refine RunR.nx ?_
  refine RunR.sil hU [] 2 2 [0, 3, 20, 21] [(0, pt p), (3, pt b1), (20, pt p), (21, pt b1)] ((True) ∧ (0 ≤ (0 : Int) ∧ (0 : Int) < ((4 : Nat) : Int)) ∧ True) rfl (by kernel_rfl) ⟨trivial, (by omega), trivial⟩ ?_
  refine RunR.st (some 22) (.load 3 (.tmp 21)) (Step.load_blk hU 1 b1 (0) 107 [.int .i64 q0, .int .i64 q1, .int .i64 q2, .int .i64 q3] (.int .i64 q0) (by kernel_rfl) (by kernel_rfl) (by kernel_rfl) (by kernel_rfl) ?_)
  refine RunR.sil hU [] 1 4 [0, 3, 20, 22, 23] [(0, pt p), (3, pt b1), (20, pt p), (22, .int .i64 q0), (23, .pointer (some ⟨b1, 1, none⟩))] ((0 ≤ (1 : Int) ∧ (1 : Int) < ((4 : Nat) : Int)) ∧ True) rfl (by kernel_rfl) ⟨(by omega), trivial⟩ ?_
  refine RunR.st (some 24) (.load 3 (.tmp 23)) (Step.load_blk hU 1 b1 (1) 107 [.int .i64 q0, .int .i64 q1, .int .i64 q2, .int .i64 q3] (.int .i64 q1) (by kernel_rfl) (by kernel_rfl) (by kernel_rfl) (by kernel_rfl) ?_)
  refine RunR.sil hU [] 1 6 [0, 3, 20, 22, 24, 25] [(0, pt p), (3, pt b1), (20, pt p), (22, .int .i64 q0), (24, .int .i64 q1), (25, .pointer (some ⟨b1, 3, none⟩))] ((0 ≤ (3 : Int) ∧ (3 : Int) < ((4 : Nat) : Int)) ∧ True) rfl (by kernel_rfl) ⟨(by omega), trivial⟩ ?_
  refine RunR.st (some 26) (.load 3 (.tmp 25)) (Step.load_blk hU 1 b1 (3) 107 [.int .i64 q0, .int .i64 q1, .int .i64 q2, .int .i64 q3] (.int .i64 q3) (by kernel_rfl) (by kernel_rfl) (by kernel_rfl) (by kernel_rfl) ?_)
  refine RunR.st (some 27) (.call { callee := .value (.func 90), args := #[.tmp 20, .tmp 22, .tmp 24, .tmp 26, .const (.int .i64 8)], argTypes := #[133, 3, 3, 3, 3] }) (Step.cn 90 [pt p, .int .i64 q0, .int .i64 q1, .int .i64 q3, .int .i64 8] [blk p 105 (nums .u32 zs5)] [blk b1 107 [.int .i64 q0, .int .i64 q1, .int .i64 q2, .int .i64 q3]] (c_half_spec p zs5 q0 q1 q3 8 (by assumption) (by assumption) (by assumption) (by assumption) (by omega)) [0] ?_)
  rintro _ _ ⟨zs8, rfl, rfl, hp9, hp10⟩
  refine RunR.nn ?_
  refine RunC.region ?_
  refine RunR.sil hU [] 2 2 [3, 28, 29] [(3, pt b1), (28, pt p), (29, .pointer (some ⟨b1, 2, none⟩))] ((True) ∧ (0 ≤ (2 : Int) ∧ (2 : Int) < ((4 : Nat) : Int)) ∧ True) rfl (by kernel_rfl) ⟨trivial, (by omega), trivial⟩ ?_
  refine RunR.st (some 30) (.load 3 (.tmp 29)) (Step.load_blk hU 1 b1 (2) 107 [.int .i64 q0, .int .i64 q1, .int .i64 q2, .int .i64 q3] (.int .i64 q2) (by kernel_rfl) (by kernel_rfl) (by kernel_rfl) (by kernel_rfl) ?_)
  refine RunR.sil hU [] 1 4 [3, 28, 30, 31] [(3, pt b1), (28, pt p), (30, .int .i64 q2), (31, .pointer (some ⟨b1, 3, none⟩))] ((0 ≤ (3 : Int) ∧ (3 : Int) < ((4 : Nat) : Int)) ∧ True) rfl (by kernel_rfl) ⟨(by omega), trivial⟩ ?_
  refine RunR.st (some 32) (.load 3 (.tmp 31)) (Step.load_blk hU 1 b1 (3) 107 [.int .i64 q0, .int .i64 q1, .int .i64 q2, .int .i64 q3] (.int .i64 q3) (by kernel_rfl) (by kernel_rfl) (by kernel_rfl) (by kernel_rfl) ?_)
  refine RunR.sil hU [] 1 6 [28, 30, 32, 33] [(28, pt p), (30, .int .i64 q2), (32, .int .i64 q3), (33, .pointer (some ⟨b1, 1, none⟩))] ((0 ≤ (1 : Int) ∧ (1 : Int) < ((4 : Nat) : Int)) ∧ True) rfl (by kernel_rfl) ⟨(by omega), trivial⟩ ?_
  refine RunR.st (some 34) (.load 3 (.tmp 33)) (Step.load_blk hU 1 b1 (1) 107 [.int .i64 q0, .int .i64 q1, .int .i64 q2, .int .i64 q3] (.int .i64 q1) (by kernel_rfl) (by kernel_rfl) (by kernel_rfl) (by kernel_rfl) ?_)
  refine RunR.st (some 35) (.call { callee := .value (.func 90), args := #[.tmp 28, .tmp 30, .tmp 32, .tmp 34, .const (.int .i64 7)], argTypes := #[133, 3, 3, 3, 3] }) (Step.cn 90 [pt p, .int .i64 q2, .int .i64 q3, .int .i64 q1, .int .i64 7] [blk p 105 (nums .u32 zs8)] [blk b1 107 [.int .i64 q0, .int .i64 q1, .int .i64 q2, .int .i64 q3]] (c_half_spec p zs8 q2 q3 q1 7 (by assumption) (by assumption) (by assumption) (by assumption) (by omega)) [0] ?_)
  rintro _ _ ⟨zs11, rfl, rfl, hp12, hp13⟩
  refine RunR.dn ?_
  refine kret_n [] [0] [blk p 105 (nums .u32 zs11)] trivial (by kernel_rfl) rfl ⟨zs11, rfl, rfl, (by simp only [quarter, hp3, hp6, hp9, hp12]), (by assumption)⟩

theorem c_quarters_spec  :
    CallsS Try.prog 61 [] [] (fun r D => r = .agg (nums .i64 ([0, 4, 8, 12, 1, 5, 9, 13, 2, 6, 10, 14, 3, 7, 11, 15, 0, 5, 10, 15, 1, 6, 11, 12, 2, 7, 8, 13, 3, 4, 9, 14] : List Int)).toArray ∧ D = []) := by
  refine CallsS.enter hU Try.f61 _ [.cell 0 108] 10 Try.func61 rfl (by decide) rfl rfl (by kernel_rfl) fun w0 W => ?_
  refine RunC.sr ?_
  refine RunR.st (some 0) (.alloc 108) (Step.al hU 32 256 z32 (fun b1 => ?_))
  have hl2 : (List.replicate 32 (0 : Int)).length = 32 := List.length_replicate
  refine RunR.nx ?_
  refine RunR.sl hU [] 9 9 [0, 9] [(0, pt b1), (9, .agg (nums .i64 ([0,  4,  8,  12, 1,  5,  9,  13, 2,  6,  10,  14, 3,  7,  11,  15, 0,  5,  10,  15, 1,  6,  11,  12, 2,  7,  8,  13, 3,  4,  9,  14] : List Int)).toArray)] 9 ?_
  refine RunR.st none (.store 108 (.tmp 0) (.tmp 9)) (Step.store_arr hU 0 b1 108 32 .i64 (List.replicate 32 (0 : Int)) ([0,  4,  8,  12, 1,  5,  9,  13, 2,  6,  10,  14, 3,  7,  11,  15, 0,  5,  10,  15, 1,  6,  11,  12, 2,  7,  8,  13, 3,  4,  9,  14] : List Int) (by kernel_rfl) (by kernel_rfl) (by kernel_rfl) (by kernel_rfl) (by rfl) (by rfl) ?_)
  have hl3 : (([0,  4,  8,  12, 1,  5,  9,  13, 2,  6,  10,  14, 3,  7,  11,  15, 0,  5,  10,  15, 1,  6,  11,  12, 2,  7,  8,  13, 3,  4,  9,  14] : List Int)).length = 32 := rfl
  refine RunR.nn ?_
  refine RunC.ret ?_
  refine kret_r [.agg (nums .i64 ([0,  4,  8,  12, 1,  5,  9,  13, 2,  6,  10,  14, 3,  7,  11,  15, 0,  5,  10,  15, 1,  6,  11,  12, 2,  7,  8,  13, 3,  4,  9,  14] : List Int)).toArray] [] [] ⟨⟨0, b1, 0, 108, nums .i64 ([0,  4,  8,  12, 1,  5,  9,  13, 2,  6,  10,  14, 3,  7,  11,  15, 0,  5,  10,  15, 1,  6,  11,  12, 2,  7,  8,  13, 3,  4,  9,  14] : List Int), rfl, rfl, by kernel_rfl⟩, trivial⟩ (by kernel_rfl) rfl ⟨rfl, rfl⟩

theorem c_begin_spec (A : Option Addr) (c : Nat) (xs : List Int) (A2 : Option Addr) (c2 : Nat) (ys : List Int) (n : Int) (l_xs : Nat) (l_ys : Nat) (hx : In .u8 xs) (hy : In .u8 ys) (hxl : xs.length = 32) (hyl : ys.length = 12) (hn : fits .u32 n) (hcx : xs.length ≤ c) (hcy : ys.length ≤ c2) (hl_xs : xs.length = l_xs) (hl_ys : ys.length = l_ys) :
    CallsS Try.prog 60 [.slice A l_xs c, .slice A2 l_ys c2, .int .u32 n] [vw A (nums .u8 xs), vw A2 (nums .u8 ys)] (fun r D => ∃ (zs : List Int), r = ag .u32 zs ∧ D = [] ∧ (zs = begin_ xs ys n) ∧ (zs.length = 16)) := by
  subst hl_xs
  subst hl_ys
  refine CallsS.enter hU Try.f60 _ [.cell 6 105] 38 Try.func60 rfl (by decide) rfl rfl (by kernel_rfl) fun w0 W => ?_
  refine RunC.know (p := 0 < xs.length → Option.isSome A = true) (fun _ _ w hs => vw_some hs 0 rfl (by (simp [nums_length]; done))) (fun hA1 => ?_)
  refine RunC.know (p := 0 < ys.length → Option.isSome A2 = true) (fun _ _ w hs => vw_some hs 1 rfl (by (simp [nums_length]; done))) (fun hA2 => ?_)
  refine RunC.sr ?_
  refine RunR.st (some 6) (.alloc 105) (Step.al hU 16 64 (.agg #[.int .u32 0, .int .u32 0, .int .u32 0, .int .u32 0, .int .u32 0, .int .u32 0, .int .u32 0, .int .u32 0, .int .u32 0, .int .u32 0, .int .u32 0, .int .u32 0, .int .u32 0, .int .u32 0, .int .u32 0, .int .u32 0]) (fun b3 => ?_))
  have hl4 : (List.replicate 16 (0 : Int)).length = 16 := List.length_replicate
  refine RunR.nx ?_
  refine RunR.sl hU [] 1 1 [0, 1, 2, 6, 10] [(0, .slice A xs.length c), (1, .slice A2 ys.length c2), (2, .int .u32 n), (6, pt b3), (10, .agg (nums .u32 ([1634760805, 857760878, 2036477234, 1797285236, 0, 0, 0, 0, 0, 0, 0, 0, 0, 0, 0, 0] : List Int)).toArray)] 1 ?_
  refine RunR.st (some 7) (.alloc 105) (Step.al hU 16 64 (.agg #[.int .u32 0, .int .u32 0, .int .u32 0, .int .u32 0, .int .u32 0, .int .u32 0, .int .u32 0, .int .u32 0, .int .u32 0, .int .u32 0, .int .u32 0, .int .u32 0, .int .u32 0, .int .u32 0, .int .u32 0, .int .u32 0]) (fun b5 => ?_))
  have hl6 : (List.replicate 16 (0 : Int)).length = 16 := List.length_replicate
  refine RunR.st none (.store 105 (.tmp 7) (.tmp 10)) (Step.store_arr hU 0 b5 105 16 .u32 (List.replicate 16 (0 : Int)) ([1634760805, 857760878, 2036477234, 1797285236, 0, 0, 0, 0, 0, 0, 0, 0, 0, 0, 0, 0] : List Int) (by kernel_rfl) (by kernel_rfl) (by kernel_rfl) (by kernel_rfl) (by rfl) (by rfl) ?_)
  have hl7 : (([1634760805, 857760878, 2036477234, 1797285236, 0, 0, 0, 0, 0, 0, 0, 0, 0, 0, 0, 0] : List Int)).length = 16 := rfl
  refine RunR.nn ?_
  refine RunC.seq ?_
  refine RunC.sr ?_
  refine RunR.sl hU [] 1 1 [0, 1, 2, 6, 7, 11] [(0, .slice A xs.length c), (1, .slice A2 ys.length c2), (2, .int .u32 n), (6, pt b3), (7, pt b5), (11, .int .i64 0)] 1 ?_
  refine RunR.nn ?_
  refine RunC.block ?_
  refine RunC.unroll 8 ?_
  refine RunC.sr ?_
  refine RunR.sl hU [] 1 1 [0, 1, 2, 6, 7, 11, 12] [(0, .slice A xs.length c), (1, .slice A2 ys.length c2), (2, .int .u32 n), (6, pt b3), (7, pt b5), (11, .int .i64 0), (12, .bool true)] 1 ?_
  refine RunR.nn ?_
  refine RunC.seq ?_
  refine RunC.cond (b := true) (by kernel_rfl) (fun _ => ?_) (fun h => by cases h)
  refine RunC.ks ?_
  refine RunC.seq ?_
  refine RunC.block ?_
  refine RunC.sr ?_
  refine RunR.sl hU [] 2 2 [0, 1, 2, 6, 7, 8, 11] [(0, .slice A xs.length c), (1, .slice A2 ys.length c2), (2, .int .u32 n), (6, pt b3), (7, pt b5), (8, .int .i64 0), (11, .int .i64 0)] 2 ?_
  refine RunR.nn ?_
  refine RunC.region ?_
  refine RunR.sil hU [1, 4] 6 6 [0, 1, 2, 6, 7, 11, 15, 19] [(0, .slice A xs.length c), (1, .slice A2 ys.length c2), (2, .int .u32 n), (6, pt b3), (7, pt b5), (11, .int .i64 0), (15, .int .i64 4), (19, .slice (subBase A 0 c 1) (xs.length - 0) (c - 0))] ((True) ∧ (-9223372036854775808 ≤ ((4 : Int) + 0) ∧ ((4 : Int) + 0) < 9223372036854775808) ∧ (True) ∧ (True) ∧ (-9223372036854775808 ≤ ((4 : Int) * 0) ∧ ((4 : Int) * 0) < 9223372036854775808) ∧ (0 ≤ (0 : Int) ∧ (0 : Int) ≤ ((xs.length : Nat) : Int)) ∧ True) rfl (by kernel_rfl) ⟨trivial, (by decide), trivial, trivial, (by decide), (by omega), trivial⟩ ?_
  obtain ⟨zs8, hz9⟩ : ∃ z : List Int, z = (xs.drop 0).take (xs.length - 0) := ⟨_, rfl⟩
  have hl10 : zs8.length = xs.length - 0 := by rw [hz9, List.length_take, List.length_drop]; omega
  have hB12_t : Tells (vw A (nums .u8 xs)) (subBase A 0 c 1) (nums .u8 zs8) := by rw [hz9]; exact tells_sub_nums (tells_vw _ _) _ _ _ (by omega) (by omega)
  have hA13 : 0 < zs8.length → Option.isSome (subBase A 0 c 1) = true := fun h => part_some (hA1 (by omega)) _ _ _
  refine RunR.ev [0, 1, 2, 6, 7, 11, 15, 19] [(0, .slice A xs.length c), (1, .slice A2 ys.length c2), (2, .int .u32 n), (6, pt b3), (7, pt b5), (11, .int .i64 0), (15, .int .i64 4), (19, .slice (subBase A 0 c 1) (xs.length - 0) (c - 0))] ?_
  refine RunR.enveq [(0, .slice A xs.length c), (1, .slice A2 ys.length c2), (2, .int .u32 n), (6, pt b3), (7, pt b5), (11, .int .i64 0), (15, .int .i64 4), (19, .slice (subBase A 0 c 1) zs8.length (c - 0))] (by rw [hl10]) ?_
  have hr14 : In .u8 zs8 := by rw [hz9]; exact (hx.drop _).take _
  refine RunR.st (some 20) (.call { callee := .value (.func 89), args := #[.tmp 19], argTypes := #[24] }) (Step.cl 89 [.slice (subBase A 0 c 1) zs8.length (c - 0)] [] [vw (subBase A 0 c 1) (nums .u8 zs8)] [blk b5 105 (nums .u32 ([1634760805, 857760878, 2036477234, 1797285236, 0, 0, 0, 0, 0, 0, 0, 0, 0, 0, 0, 0] : List Int)), blk b3 105 (nums .u32 (List.replicate 16 (0 : Int))), vw A (nums .u8 xs), vw A2 (nums .u8 ys)] (w_Get32_spec (subBase A 0 c 1) (c - 0) zs8 zs8.length hr14 (by omega) (by rfl)) [] ((Lend.nil _).tells 2 (vw A (nums .u8 xs)) (subBase A 0 c 1) (nums .u8 zs8) (by kernel_rfl) (hB12_t)) ?_)
  rintro _ _ ⟨rfl, rfl⟩
  refine RunR.sil hU [] 1 8 [0, 1, 2, 6, 7, 11, 20, 21] [(0, .slice A xs.length c), (1, .slice A2 ys.length c2), (2, .int .u32 n), (6, pt b3), (7, pt b5), (11, .int .i64 0), (20, .int .u32 (leN zs8 4)), (21, .pointer (some ⟨b5, 4, none⟩))] ((0 ≤ (4 : Int) ∧ (4 : Int) < ((16 : Nat) : Int)) ∧ True) rfl (by kernel_rfl) ⟨(by omega), trivial⟩ ?_
  refine RunR.st none (.store 53 (.tmp 21) (.tmp 20)) (Step.store_blknum hU 0 b5 (4) 105 4 .u32 ([1634760805, 857760878, 2036477234, 1797285236, 0, 0, 0, 0, 0, 0, 0, 0, 0, 0, 0, 0] : List Int) (leN zs8 4) (by kernel_rfl) (by kernel_rfl) (by kernel_rfl) rfl (by omega) (by omega) ?_)
  refine RunR.turn ([blk b5 105 (nums .u32 ([1634760805, 857760878, 2036477234, 1797285236, leN zs8 4, 0, 0, 0, 0, 0, 0, 0, 0, 0, 0, 0] : List Int)), blk b3 105 (nums .u32 (List.replicate 16 (0 : Int))), vw A (nums .u8 xs), vw A2 (nums .u8 ys)]) (fun _ _ w hs => hs) ?_
  refine RunR.dn ?_
  refine kblock_n ?_
  refine kseq_n ?_
  refine RunC.region ?_
  refine RunR.sil hU [0] 2 2 [0, 1, 2, 6, 7, 11] [(0, .slice A xs.length c), (1, .slice A2 ys.length c2), (2, .int .u32 n), (6, pt b3), (7, pt b5), (11, .int .i64 1)] ((-9223372036854775808 ≤ ((0 : Int) + 1) ∧ ((0 : Int) + 1) < 9223372036854775808) ∧ (True) ∧ True) rfl (by kernel_rfl) ⟨(by decide), trivial, trivial⟩ ?_
  refine RunR.dn ?_
  refine kround_n ?_
  refine RunC.sr ?_
  refine RunR.sl hU [] 1 1 [0, 1, 2, 6, 7, 11, 12] [(0, .slice A xs.length c), (1, .slice A2 ys.length c2), (2, .int .u32 n), (6, pt b3), (7, pt b5), (11, .int .i64 1), (12, .bool true)] 1 ?_
  refine RunR.nn ?_
  refine RunC.seq ?_
  refine RunC.cond (b := true) (by kernel_rfl) (fun _ => ?_) (fun h => by cases h)
  refine RunC.ks ?_
  refine RunC.seq ?_
  refine RunC.block ?_
  refine RunC.sr ?_
  refine RunR.sl hU [] 2 2 [0, 1, 2, 6, 7, 8, 11] [(0, .slice A xs.length c), (1, .slice A2 ys.length c2), (2, .int .u32 n), (6, pt b3), (7, pt b5), (8, .int .i64 1), (11, .int .i64 1)] 2 ?_
  refine RunR.nn ?_
  refine RunC.region ?_
  refine RunR.sil hU [1, 4] 6 6 [0, 1, 2, 6, 7, 11, 15, 19] [(0, .slice A xs.length c), (1, .slice A2 ys.length c2), (2, .int .u32 n), (6, pt b3), (7, pt b5), (11, .int .i64 1), (15, .int .i64 5), (19, .slice (subBase A 4 c 1) (xs.length - 4) (c - 4))] ((True) ∧ (-9223372036854775808 ≤ ((4 : Int) + 1) ∧ ((4 : Int) + 1) < 9223372036854775808) ∧ (True) ∧ (True) ∧ (-9223372036854775808 ≤ ((4 : Int) * 1) ∧ ((4 : Int) * 1) < 9223372036854775808) ∧ (0 ≤ (4 : Int) ∧ (4 : Int) ≤ ((xs.length : Nat) : Int)) ∧ True) rfl (by kernel_rfl) ⟨trivial, (by decide), trivial, trivial, (by decide), (by omega), trivial⟩ ?_
  obtain ⟨zs15, hz16⟩ : ∃ z : List Int, z = (xs.drop 4).take (xs.length - 4) := ⟨_, rfl⟩
  have hl17 : zs15.length = xs.length - 4 := by rw [hz16, List.length_take, List.length_drop]; omega
  have hB19_t : Tells (vw A (nums .u8 xs)) (subBase A 4 c 1) (nums .u8 zs15) := by rw [hz16]; exact tells_sub_nums (tells_vw _ _) _ _ _ (by omega) (by omega)
  have hA20 : 0 < zs15.length → Option.isSome (subBase A 4 c 1) = true := fun h => part_some (hA1 (by omega)) _ _ _
  refine RunR.ev [0, 1, 2, 6, 7, 11, 15, 19] [(0, .slice A xs.length c), (1, .slice A2 ys.length c2), (2, .int .u32 n), (6, pt b3), (7, pt b5), (11, .int .i64 1), (15, .int .i64 5), (19, .slice (subBase A 4 c 1) (xs.length - 4) (c - 4))] ?_
  refine RunR.enveq [(0, .slice A xs.length c), (1, .slice A2 ys.length c2), (2, .int .u32 n), (6, pt b3), (7, pt b5), (11, .int .i64 1), (15, .int .i64 5), (19, .slice (subBase A 4 c 1) zs15.length (c - 4))] (by rw [hl17]) ?_
  have hr21 : In .u8 zs15 := by rw [hz16]; exact (hx.drop _).take _
  refine RunR.st (some 20) (.call { callee := .value (.func 89), args := #[.tmp 19], argTypes := #[24] }) (Step.cl 89 [.slice (subBase A 4 c 1) zs15.length (c - 4)] [] [vw (subBase A 4 c 1) (nums .u8 zs15)] [blk b5 105 (nums .u32 ([1634760805, 857760878, 2036477234, 1797285236, leN zs8 4, 0, 0, 0, 0, 0, 0, 0, 0, 0, 0, 0] : List Int)), blk b3 105 (nums .u32 (List.replicate 16 (0 : Int))), vw A (nums .u8 xs), vw A2 (nums .u8 ys)] (w_Get32_spec (subBase A 4 c 1) (c - 4) zs15 zs15.length hr21 (by omega) (by rfl)) [] ((Lend.nil _).tells 2 (vw A (nums .u8 xs)) (subBase A 4 c 1) (nums .u8 zs15) (by kernel_rfl) (hB19_t)) ?_)
  rintro _ _ ⟨rfl, rfl⟩
  refine RunR.sil hU [] 1 8 [0, 1, 2, 6, 7, 11, 20, 21] [(0, .slice A xs.length c), (1, .slice A2 ys.length c2), (2, .int .u32 n), (6, pt b3), (7, pt b5), (11, .int .i64 1), (20, .int .u32 (leN zs15 4)), (21, .pointer (some ⟨b5, 5, none⟩))] ((0 ≤ (5 : Int) ∧ (5 : Int) < ((16 : Nat) : Int)) ∧ True) rfl (by kernel_rfl) ⟨(by omega), trivial⟩ ?_
  refine RunR.st none (.store 53 (.tmp 21) (.tmp 20)) (Step.store_blknum hU 0 b5 (5) 105 5 .u32 ([1634760805, 857760878, 2036477234, 1797285236, leN zs8 4, 0, 0, 0, 0, 0, 0, 0, 0, 0, 0, 0] : List Int) (leN zs15 4) (by kernel_rfl) (by kernel_rfl) (by kernel_rfl) rfl (by omega) (by (simp only [List.length_cons, List.length_nil]; omega)) ?_)
  refine RunR.turn ([blk b5 105 (nums .u32 ([1634760805, 857760878, 2036477234, 1797285236, leN zs8 4, leN zs15 4, 0, 0, 0, 0, 0, 0, 0, 0, 0, 0] : List Int)), blk b3 105 (nums .u32 (List.replicate 16 (0 : Int))), vw A (nums .u8 xs), vw A2 (nums .u8 ys)]) (fun _ _ w hs => hs) ?_
  refine RunR.dn ?_
  refine kblock_n ?_
  refine kseq_n ?_
  refine RunC.region ?_
  refine RunR.sil hU [0] 2 2 [0, 1, 2, 6, 7, 11] [(0, .slice A xs.length c), (1, .slice A2 ys.length c2), (2, .int .u32 n), (6, pt b3), (7, pt b5), (11, .int .i64 2)] ((-9223372036854775808 ≤ ((1 : Int) + 1) ∧ ((1 : Int) + 1) < 9223372036854775808) ∧ (True) ∧ True) rfl (by kernel_rfl) ⟨(by decide), trivial, trivial⟩ ?_
  refine RunR.dn ?_
  refine kround_n ?_
  refine RunC.sr ?_
  refine RunR.sl hU [] 1 1 [0, 1, 2, 6, 7, 11, 12] [(0, .slice A xs.length c), (1, .slice A2 ys.length c2), (2, .int .u32 n), (6, pt b3), (7, pt b5), (11, .int .i64 2), (12, .bool true)] 1 ?_
  refine RunR.nn ?_
  refine RunC.seq ?_
  refine RunC.cond (b := true) (by kernel_rfl) (fun _ => ?_) (fun h => by cases h)
  refine RunC.ks ?_
  refine RunC.seq ?_
  refine RunC.block ?_
  refine RunC.sr ?_
  refine RunR.sl hU [] 2 2 [0, 1, 2, 6, 7, 8, 11] [(0, .slice A xs.length c), (1, .slice A2 ys.length c2), (2, .int .u32 n), (6, pt b3), (7, pt b5), (8, .int .i64 2), (11, .int .i64 2)] 2 ?_
  refine RunR.nn ?_
  refine RunC.region ?_
  refine RunR.sil hU [1, 4] 6 6 [0, 1, 2, 6, 7, 11, 15, 19] [(0, .slice A xs.length c), (1, .slice A2 ys.length c2), (2, .int .u32 n), (6, pt b3), (7, pt b5), (11, .int .i64 2), (15, .int .i64 6), (19, .slice (subBase A 8 c 1) (xs.length - 8) (c - 8))] ((True) ∧ (-9223372036854775808 ≤ ((4 : Int) + 2) ∧ ((4 : Int) + 2) < 9223372036854775808) ∧ (True) ∧ (True) ∧ (-9223372036854775808 ≤ ((4 : Int) * 2) ∧ ((4 : Int) * 2) < 9223372036854775808) ∧ (0 ≤ (8 : Int) ∧ (8 : Int) ≤ ((xs.length : Nat) : Int)) ∧ True) rfl (by kernel_rfl) ⟨trivial, (by decide), trivial, trivial, (by decide), (by omega), trivial⟩ ?_
  obtain ⟨zs22, hz23⟩ : ∃ z : List Int, z = (xs.drop 8).take (xs.length - 8) := ⟨_, rfl⟩
  have hl24 : zs22.length = xs.length - 8 := by rw [hz23, List.length_take, List.length_drop]; omega
  have hB26_t : Tells (vw A (nums .u8 xs)) (subBase A 8 c 1) (nums .u8 zs22) := by rw [hz23]; exact tells_sub_nums (tells_vw _ _) _ _ _ (by omega) (by omega)
  have hA27 : 0 < zs22.length → Option.isSome (subBase A 8 c 1) = true := fun h => part_some (hA1 (by omega)) _ _ _
  refine RunR.ev [0, 1, 2, 6, 7, 11, 15, 19] [(0, .slice A xs.length c), (1, .slice A2 ys.length c2), (2, .int .u32 n), (6, pt b3), (7, pt b5), (11, .int .i64 2), (15, .int .i64 6), (19, .slice (subBase A 8 c 1) (xs.length - 8) (c - 8))] ?_
  refine RunR.enveq [(0, .slice A xs.length c), (1, .slice A2 ys.length c2), (2, .int .u32 n), (6, pt b3), (7, pt b5), (11, .int .i64 2), (15, .int .i64 6), (19, .slice (subBase A 8 c 1) zs22.length (c - 8))] (by rw [hl24]) ?_
  have hr28 : In .u8 zs22 := by rw [hz23]; exact (hx.drop _).take _
  refine RunR.st (some 20) (.call { callee := .value (.func 89), args := #[.tmp 19], argTypes := #[24] }) (Step.cl 89 [.slice (subBase A 8 c 1) zs22.length (c - 8)] [] [vw (subBase A 8 c 1) (nums .u8 zs22)] [blk b5 105 (nums .u32 ([1634760805, 857760878, 2036477234, 1797285236, leN zs8 4, leN zs15 4, 0, 0, 0, 0, 0, 0, 0, 0, 0, 0] : List Int)), blk b3 105 (nums .u32 (List.replicate 16 (0 : Int))), vw A (nums .u8 xs), vw A2 (nums .u8 ys)] (w_Get32_spec (subBase A 8 c 1) (c - 8) zs22 zs22.length hr28 (by omega) (by rfl)) [] ((Lend.nil _).tells 2 (vw A (nums .u8 xs)) (subBase A 8 c 1) (nums .u8 zs22) (by kernel_rfl) (hB26_t)) ?_)
  rintro _ _ ⟨rfl, rfl⟩
  refine RunR.sil hU [] 1 8 [0, 1, 2, 6, 7, 11, 20, 21] [(0, .slice A xs.length c), (1, .slice A2 ys.length c2), (2, .int .u32 n), (6, pt b3), (7, pt b5), (11, .int .i64 2), (20, .int .u32 (leN zs22 4)), (21, .pointer (some ⟨b5, 6, none⟩))] ((0 ≤ (6 : Int) ∧ (6 : Int) < ((16 : Nat) : Int)) ∧ True) rfl (by kernel_rfl) ⟨(by omega), trivial⟩ ?_
  refine RunR.st none (.store 53 (.tmp 21) (.tmp 20)) (Step.store_blknum hU 0 b5 (6) 105 6 .u32 ([1634760805, 857760878, 2036477234, 1797285236, leN zs8 4, leN zs15 4, 0, 0, 0, 0, 0, 0, 0, 0, 0, 0] : List Int) (leN zs22 4) (by kernel_rfl) (by kernel_rfl) (by kernel_rfl) rfl (by omega) (by (simp only [List.length_cons, List.length_nil]; omega)) ?_)
  refine RunR.turn ([blk b5 105 (nums .u32 ([1634760805, 857760878, 2036477234, 1797285236, leN zs8 4, leN zs15 4, leN zs22 4, 0, 0, 0, 0, 0, 0, 0, 0, 0] : List Int)), blk b3 105 (nums .u32 (List.replicate 16 (0 : Int))), vw A (nums .u8 xs), vw A2 (nums .u8 ys)]) (fun _ _ w hs => hs) ?_
  refine RunR.dn ?_
  refine kblock_n ?_
  refine kseq_n ?_
  refine RunC.region ?_
  refine RunR.sil hU [0] 2 2 [0, 1, 2, 6, 7, 11] [(0, .slice A xs.length c), (1, .slice A2 ys.length c2), (2, .int .u32 n), (6, pt b3), (7, pt b5), (11, .int .i64 3)] ((-9223372036854775808 ≤ ((2 : Int) + 1) ∧ ((2 : Int) + 1) < 9223372036854775808) ∧ (True) ∧ True) rfl (by kernel_rfl) ⟨(by decide), trivial, trivial⟩ ?_
  refine RunR.dn ?_
  refine kround_n ?_
  refine RunC.sr ?_
  refine RunR.sl hU [] 1 1 [0, 1, 2, 6, 7, 11, 12] [(0, .slice A xs.length c), (1, .slice A2 ys.length c2), (2, .int .u32 n), (6, pt b3), (7, pt b5), (11, .int .i64 3), (12, .bool true)] 1 ?_
  refine RunR.nn ?_
  refine RunC.seq ?_
  refine RunC.cond (b := true) (by kernel_rfl) (fun _ => ?_) (fun h => by cases h)
  refine RunC.ks ?_
  refine RunC.seq ?_
  refine RunC.block ?_
  refine RunC.sr ?_
  refine RunR.sl hU [] 2 2 [0, 1, 2, 6, 7, 8, 11] [(0, .slice A xs.length c), (1, .slice A2 ys.length c2), (2, .int .u32 n), (6, pt b3), (7, pt b5), (8, .int .i64 3), (11, .int .i64 3)] 2 ?_
  refine RunR.nn ?_
  refine RunC.region ?_
  refine RunR.sil hU [1, 4] 6 6 [0, 1, 2, 6, 7, 11, 15, 19] [(0, .slice A xs.length c), (1, .slice A2 ys.length c2), (2, .int .u32 n), (6, pt b3), (7, pt b5), (11, .int .i64 3), (15, .int .i64 7), (19, .slice (subBase A 12 c 1) (xs.length - 12) (c - 12))] ((True) ∧ (-9223372036854775808 ≤ ((4 : Int) + 3) ∧ ((4 : Int) + 3) < 9223372036854775808) ∧ (True) ∧ (True) ∧ (-9223372036854775808 ≤ ((4 : Int) * 3) ∧ ((4 : Int) * 3) < 9223372036854775808) ∧ (0 ≤ (12 : Int) ∧ (12 : Int) ≤ ((xs.length : Nat) : Int)) ∧ True) rfl (by kernel_rfl) ⟨trivial, (by decide), trivial, trivial, (by decide), (by omega), trivial⟩ ?_
  obtain ⟨zs29, hz30⟩ : ∃ z : List Int, z = (xs.drop 12).take (xs.length - 12) := ⟨_, rfl⟩
  have hl31 : zs29.length = xs.length - 12 := by rw [hz30, List.length_take, List.length_drop]; omega
  have hB33_t : Tells (vw A (nums .u8 xs)) (subBase A 12 c 1) (nums .u8 zs29) := by rw [hz30]; exact tells_sub_nums (tells_vw _ _) _ _ _ (by omega) (by omega)
  have hA34 : 0 < zs29.length → Option.isSome (subBase A 12 c 1) = true := fun h => part_some (hA1 (by omega)) _ _ _
  refine RunR.ev [0, 1, 2, 6, 7, 11, 15, 19] [(0, .slice A xs.length c), (1, .slice A2 ys.length c2), (2, .int .u32 n), (6, pt b3), (7, pt b5), (11, .int .i64 3), (15, .int .i64 7), (19, .slice (subBase A 12 c 1) (xs.length - 12) (c - 12))] ?_
  refine RunR.enveq [(0, .slice A xs.length c), (1, .slice A2 ys.length c2), (2, .int .u32 n), (6, pt b3), (7, pt b5), (11, .int .i64 3), (15, .int .i64 7), (19, .slice (subBase A 12 c 1) zs29.length (c - 12))] (by rw [hl31]) ?_
  have hr35 : In .u8 zs29 := by rw [hz30]; exact (hx.drop _).take _
  refine RunR.st (some 20) (.call { callee := .value (.func 89), args := #[.tmp 19], argTypes := #[24] }) (Step.cl 89 [.slice (subBase A 12 c 1) zs29.length (c - 12)] [] [vw (subBase A 12 c 1) (nums .u8 zs29)] [blk b5 105 (nums .u32 ([1634760805, 857760878, 2036477234, 1797285236, leN zs8 4, leN zs15 4, leN zs22 4, 0, 0, 0, 0, 0, 0, 0, 0, 0] : List Int)), blk b3 105 (nums .u32 (List.replicate 16 (0 : Int))), vw A (nums .u8 xs), vw A2 (nums .u8 ys)] (w_Get32_spec (subBase A 12 c 1) (c - 12) zs29 zs29.length hr35 (by omega) (by rfl)) [] ((Lend.nil _).tells 2 (vw A (nums .u8 xs)) (subBase A 12 c 1) (nums .u8 zs29) (by kernel_rfl) (hB33_t)) ?_)
  rintro _ _ ⟨rfl, rfl⟩
  refine RunR.sil hU [] 1 8 [0, 1, 2, 6, 7, 11, 20, 21] [(0, .slice A xs.length c), (1, .slice A2 ys.length c2), (2, .int .u32 n), (6, pt b3), (7, pt b5), (11, .int .i64 3), (20, .int .u32 (leN zs29 4)), (21, .pointer (some ⟨b5, 7, none⟩))] ((0 ≤ (7 : Int) ∧ (7 : Int) < ((16 : Nat) : Int)) ∧ True) rfl (by kernel_rfl) ⟨(by omega), trivial⟩ ?_
  refine RunR.st none (.store 53 (.tmp 21) (.tmp 20)) (Step.store_blknum hU 0 b5 (7) 105 7 .u32 ([1634760805, 857760878, 2036477234, 1797285236, leN zs8 4, leN zs15 4, leN zs22 4, 0, 0, 0, 0, 0, 0, 0, 0, 0] : List Int) (leN zs29 4) (by kernel_rfl) (by kernel_rfl) (by kernel_rfl) rfl (by omega) (by (simp only [List.length_cons, List.length_nil]; omega)) ?_)
  refine RunR.turn ([blk b5 105 (nums .u32 ([1634760805, 857760878, 2036477234, 1797285236, leN zs8 4, leN zs15 4, leN zs22 4, leN zs29 4, 0, 0, 0, 0, 0, 0, 0, 0] : List Int)), blk b3 105 (nums .u32 (List.replicate 16 (0 : Int))), vw A (nums .u8 xs), vw A2 (nums .u8 ys)]) (fun _ _ w hs => hs) ?_
  refine RunR.dn ?_
  refine kblock_n ?_
  refine kseq_n ?_
  refine RunC.region ?_
  refine RunR.sil hU [0] 2 2 [0, 1, 2, 6, 7, 11] [(0, .slice A xs.length c), (1, .slice A2 ys.length c2), (2, .int .u32 n), (6, pt b3), (7, pt b5), (11, .int .i64 4)] ((-9223372036854775808 ≤ ((3 : Int) + 1) ∧ ((3 : Int) + 1) < 9223372036854775808) ∧ (True) ∧ True) rfl (by kernel_rfl) ⟨(by decide), trivial, trivial⟩ ?_
  refine RunR.dn ?_
  refine kround_n ?_
  refine RunC.sr ?_
  refine RunR.sl hU [] 1 1 [0, 1, 2, 6, 7, 11, 12] [(0, .slice A xs.length c), (1, .slice A2 ys.length c2), (2, .int .u32 n), (6, pt b3), (7, pt b5), (11, .int .i64 4), (12, .bool true)] 1 ?_
  refine RunR.nn ?_
  refine RunC.seq ?_
  refine RunC.cond (b := true) (by kernel_rfl) (fun _ => ?_) (fun h => by cases h)
  refine RunC.ks ?_
  refine RunC.seq ?_
  refine RunC.block ?_
  refine RunC.sr ?_
  refine RunR.sl hU [] 2 2 [0, 1, 2, 6, 7, 8, 11] [(0, .slice A xs.length c), (1, .slice A2 ys.length c2), (2, .int .u32 n), (6, pt b3), (7, pt b5), (8, .int .i64 4), (11, .int .i64 4)] 2 ?_
  refine RunR.nn ?_
  refine RunC.region ?_
  refine RunR.sil hU [1, 4] 6 6 [0, 1, 2, 6, 7, 11, 15, 19] [(0, .slice A xs.length c), (1, .slice A2 ys.length c2), (2, .int .u32 n), (6, pt b3), (7, pt b5), (11, .int .i64 4), (15, .int .i64 8), (19, .slice (subBase A 16 c 1) (xs.length - 16) (c - 16))] ((True) ∧ (-9223372036854775808 ≤ ((4 : Int) + 4) ∧ ((4 : Int) + 4) < 9223372036854775808) ∧ (True) ∧ (True) ∧ (-9223372036854775808 ≤ ((4 : Int) * 4) ∧ ((4 : Int) * 4) < 9223372036854775808) ∧ (0 ≤ (16 : Int) ∧ (16 : Int) ≤ ((xs.length : Nat) : Int)) ∧ True) rfl (by kernel_rfl) ⟨trivial, (by decide), trivial, trivial, (by decide), (by omega), trivial⟩ ?_
  obtain ⟨zs36, hz37⟩ : ∃ z : List Int, z = (xs.drop 16).take (xs.length - 16) := ⟨_, rfl⟩
  have hl38 : zs36.length = xs.length - 16 := by rw [hz37, List.length_take, List.length_drop]; omega
  have hB40_t : Tells (vw A (nums .u8 xs)) (subBase A 16 c 1) (nums .u8 zs36) := by rw [hz37]; exact tells_sub_nums (tells_vw _ _) _ _ _ (by omega) (by omega)
  have hA41 : 0 < zs36.length → Option.isSome (subBase A 16 c 1) = true := fun h => part_some (hA1 (by omega)) _ _ _
  refine RunR.ev [0, 1, 2, 6, 7, 11, 15, 19] [(0, .slice A xs.length c), (1, .slice A2 ys.length c2), (2, .int .u32 n), (6, pt b3), (7, pt b5), (11, .int .i64 4), (15, .int .i64 8), (19, .slice (subBase A 16 c 1) (xs.length - 16) (c - 16))] ?_
  refine RunR.enveq [(0, .slice A xs.length c), (1, .slice A2 ys.length c2), (2, .int .u32 n), (6, pt b3), (7, pt b5), (11, .int .i64 4), (15, .int .i64 8), (19, .slice (subBase A 16 c 1) zs36.length (c - 16))] (by rw [hl38]) ?_
  have hr42 : In .u8 zs36 := by rw [hz37]; exact (hx.drop _).take _
  refine RunR.st (some 20) (.call { callee := .value (.func 89), args := #[.tmp 19], argTypes := #[24] }) (Step.cl 89 [.slice (subBase A 16 c 1) zs36.length (c - 16)] [] [vw (subBase A 16 c 1) (nums .u8 zs36)] [blk b5 105 (nums .u32 ([1634760805, 857760878, 2036477234, 1797285236, leN zs8 4, leN zs15 4, leN zs22 4, leN zs29 4, 0, 0, 0, 0, 0, 0, 0, 0] : List Int)), blk b3 105 (nums .u32 (List.replicate 16 (0 : Int))), vw A (nums .u8 xs), vw A2 (nums .u8 ys)] (w_Get32_spec (subBase A 16 c 1) (c - 16) zs36 zs36.length hr42 (by omega) (by rfl)) [] ((Lend.nil _).tells 2 (vw A (nums .u8 xs)) (subBase A 16 c 1) (nums .u8 zs36) (by kernel_rfl) (hB40_t)) ?_)
  rintro _ _ ⟨rfl, rfl⟩
  refine RunR.sil hU [] 1 8 [0, 1, 2, 6, 7, 11, 20, 21] [(0, .slice A xs.length c), (1, .slice A2 ys.length c2), (2, .int .u32 n), (6, pt b3), (7, pt b5), (11, .int .i64 4), (20, .int .u32 (leN zs36 4)), (21, .pointer (some ⟨b5, 8, none⟩))] ((0 ≤ (8 : Int) ∧ (8 : Int) < ((16 : Nat) : Int)) ∧ True) rfl (by kernel_rfl) ⟨(by omega), trivial⟩ ?_
  refine RunR.st none (.store 53 (.tmp 21) (.tmp 20)) (Step.store_blknum hU 0 b5 (8) 105 8 .u32 ([1634760805, 857760878, 2036477234, 1797285236, leN zs8 4, leN zs15 4, leN zs22 4, leN zs29 4, 0, 0, 0, 0, 0, 0, 0, 0] : List Int) (leN zs36 4) (by kernel_rfl) (by kernel_rfl) (by kernel_rfl) rfl (by omega) (by (simp only [List.length_cons, List.length_nil]; omega)) ?_)
  refine RunR.turn ([blk b5 105 (nums .u32 ([1634760805, 857760878, 2036477234, 1797285236, leN zs8 4, leN zs15 4, leN zs22 4, leN zs29 4, leN zs36 4, 0, 0, 0, 0, 0, 0, 0] : List Int)), blk b3 105 (nums .u32 (List.replicate 16 (0 : Int))), vw A (nums .u8 xs), vw A2 (nums .u8 ys)]) (fun _ _ w hs => hs) ?_
  refine RunR.dn ?_
  refine kblock_n ?_
  refine kseq_n ?_
  refine RunC.region ?_
  refine RunR.sil hU [0] 2 2 [0, 1, 2, 6, 7, 11] [(0, .slice A xs.length c), (1, .slice A2 ys.length c2), (2, .int .u32 n), (6, pt b3), (7, pt b5), (11, .int .i64 5)] ((-9223372036854775808 ≤ ((4 : Int) + 1) ∧ ((4 : Int) + 1) < 9223372036854775808) ∧ (True) ∧ True) rfl (by kernel_rfl) ⟨(by decide), trivial, trivial⟩ ?_
  refine RunR.dn ?_
  refine kround_n ?_
  refine RunC.sr ?_
  refine RunR.sl hU [] 1 1 [0, 1, 2, 6, 7, 11, 12] [(0, .slice A xs.length c), (1, .slice A2 ys.length c2), (2, .int .u32 n), (6, pt b3), (7, pt b5), (11, .int .i64 5), (12, .bool true)] 1 ?_
  refine RunR.nn ?_
  refine RunC.seq ?_
  refine RunC.cond (b := true) (by kernel_rfl) (fun _ => ?_) (fun h => by cases h)
  refine RunC.ks ?_
  refine RunC.seq ?_
  refine RunC.block ?_
  refine RunC.sr ?_
  refine RunR.sl hU [] 2 2 [0, 1, 2, 6, 7, 8, 11] [(0, .slice A xs.length c), (1, .slice A2 ys.length c2), (2, .int .u32 n), (6, pt b3), (7, pt b5), (8, .int .i64 5), (11, .int .i64 5)] 2 ?_
  refine RunR.nn ?_
  refine RunC.region ?_
  refine RunR.sil hU [1, 4] 6 6 [0, 1, 2, 6, 7, 11, 15, 19] [(0, .slice A xs.length c), (1, .slice A2 ys.length c2), (2, .int .u32 n), (6, pt b3), (7, pt b5), (11, .int .i64 5), (15, .int .i64 9), (19, .slice (subBase A 20 c 1) (xs.length - 20) (c - 20))] ((True) ∧ (-9223372036854775808 ≤ ((4 : Int) + 5) ∧ ((4 : Int) + 5) < 9223372036854775808) ∧ (True) ∧ (True) ∧ (-9223372036854775808 ≤ ((4 : Int) * 5) ∧ ((4 : Int) * 5) < 9223372036854775808) ∧ (0 ≤ (20 : Int) ∧ (20 : Int) ≤ ((xs.length : Nat) : Int)) ∧ True) rfl (by kernel_rfl) ⟨trivial, (by decide), trivial, trivial, (by decide), (by omega), trivial⟩ ?_
  obtain ⟨zs43, hz44⟩ : ∃ z : List Int, z = (xs.drop 20).take (xs.length - 20) := ⟨_, rfl⟩
  have hl45 : zs43.length = xs.length - 20 := by rw [hz44, List.length_take, List.length_drop]; omega
  have hB47_t : Tells (vw A (nums .u8 xs)) (subBase A 20 c 1) (nums .u8 zs43) := by rw [hz44]; exact tells_sub_nums (tells_vw _ _) _ _ _ (by omega) (by omega)
  have hA48 : 0 < zs43.length → Option.isSome (subBase A 20 c 1) = true := fun h => part_some (hA1 (by omega)) _ _ _
  refine RunR.ev [0, 1, 2, 6, 7, 11, 15, 19] [(0, .slice A xs.length c), (1, .slice A2 ys.length c2), (2, .int .u32 n), (6, pt b3), (7, pt b5), (11, .int .i64 5), (15, .int .i64 9), (19, .slice (subBase A 20 c 1) (xs.length - 20) (c - 20))] ?_
  refine RunR.enveq [(0, .slice A xs.length c), (1, .slice A2 ys.length c2), (2, .int .u32 n), (6, pt b3), (7, pt b5), (11, .int .i64 5), (15, .int .i64 9), (19, .slice (subBase A 20 c 1) zs43.length (c - 20))] (by rw [hl45]) ?_
  have hr49 : In .u8 zs43 := by rw [hz44]; exact (hx.drop _).take _
  refine RunR.st (some 20) (.call { callee := .value (.func 89), args := #[.tmp 19], argTypes := #[24] }) (Step.cl 89 [.slice (subBase A 20 c 1) zs43.length (c - 20)] [] [vw (subBase A 20 c 1) (nums .u8 zs43)] [blk b5 105 (nums .u32 ([1634760805, 857760878, 2036477234, 1797285236, leN zs8 4, leN zs15 4, leN zs22 4, leN zs29 4, leN zs36 4, 0, 0, 0, 0, 0, 0, 0] : List Int)), blk b3 105 (nums .u32 (List.replicate 16 (0 : Int))), vw A (nums .u8 xs), vw A2 (nums .u8 ys)] (w_Get32_spec (subBase A 20 c 1) (c - 20) zs43 zs43.length hr49 (by omega) (by rfl)) [] ((Lend.nil _).tells 2 (vw A (nums .u8 xs)) (subBase A 20 c 1) (nums .u8 zs43) (by kernel_rfl) (hB47_t)) ?_)
  rintro _ _ ⟨rfl, rfl⟩
  refine RunR.sil hU [] 1 8 [0, 1, 2, 6, 7, 11, 20, 21] [(0, .slice A xs.length c), (1, .slice A2 ys.length c2), (2, .int .u32 n), (6, pt b3), (7, pt b5), (11, .int .i64 5), (20, .int .u32 (leN zs43 4)), (21, .pointer (some ⟨b5, 9, none⟩))] ((0 ≤ (9 : Int) ∧ (9 : Int) < ((16 : Nat) : Int)) ∧ True) rfl (by kernel_rfl) ⟨(by omega), trivial⟩ ?_
  refine RunR.st none (.store 53 (.tmp 21) (.tmp 20)) (Step.store_blknum hU 0 b5 (9) 105 9 .u32 ([1634760805, 857760878, 2036477234, 1797285236, leN zs8 4, leN zs15 4, leN zs22 4, leN zs29 4, leN zs36 4, 0, 0, 0, 0, 0, 0, 0] : List Int) (leN zs43 4) (by kernel_rfl) (by kernel_rfl) (by kernel_rfl) rfl (by omega) (by (simp only [List.length_cons, List.length_nil]; omega)) ?_)
  refine RunR.turn ([blk b5 105 (nums .u32 ([1634760805, 857760878, 2036477234, 1797285236, leN zs8 4, leN zs15 4, leN zs22 4, leN zs29 4, leN zs36 4, leN zs43 4, 0, 0, 0, 0, 0, 0] : List Int)), blk b3 105 (nums .u32 (List.replicate 16 (0 : Int))), vw A (nums .u8 xs), vw A2 (nums .u8 ys)]) (fun _ _ w hs => hs) ?_
  refine RunR.dn ?_
  refine kblock_n ?_
  refine kseq_n ?_
  refine RunC.region ?_
  refine RunR.sil hU [0] 2 2 [0, 1, 2, 6, 7, 11] [(0, .slice A xs.length c), (1, .slice A2 ys.length c2), (2, .int .u32 n), (6, pt b3), (7, pt b5), (11, .int .i64 6)] ((-9223372036854775808 ≤ ((5 : Int) + 1) ∧ ((5 : Int) + 1) < 9223372036854775808) ∧ (True) ∧ True) rfl (by kernel_rfl) ⟨(by decide), trivial, trivial⟩ ?_
  refine RunR.dn ?_
  refine kround_n ?_
  refine RunC.sr ?_
  refine RunR.sl hU [] 1 1 [0, 1, 2, 6, 7, 11, 12] [(0, .slice A xs.length c), (1, .slice A2 ys.length c2), (2, .int .u32 n), (6, pt b3), (7, pt b5), (11, .int .i64 6), (12, .bool true)] 1 ?_
  refine RunR.nn ?_
  refine RunC.seq ?_
  refine RunC.cond (b := true) (by kernel_rfl) (fun _ => ?_) (fun h => by cases h)
  refine RunC.ks ?_
  refine RunC.seq ?_
  refine RunC.block ?_
  refine RunC.sr ?_
  refine RunR.sl hU [] 2 2 [0, 1, 2, 6, 7, 8, 11] [(0, .slice A xs.length c), (1, .slice A2 ys.length c2), (2, .int .u32 n), (6, pt b3), (7, pt b5), (8, .int .i64 6), (11, .int .i64 6)] 2 ?_
  refine RunR.nn ?_
  refine RunC.region ?_
  refine RunR.sil hU [1, 4] 6 6 [0, 1, 2, 6, 7, 11, 15, 19] [(0, .slice A xs.length c), (1, .slice A2 ys.length c2), (2, .int .u32 n), (6, pt b3), (7, pt b5), (11, .int .i64 6), (15, .int .i64 10), (19, .slice (subBase A 24 c 1) (xs.length - 24) (c - 24))] ((True) ∧ (-9223372036854775808 ≤ ((4 : Int) + 6) ∧ ((4 : Int) + 6) < 9223372036854775808) ∧ (True) ∧ (True) ∧ (-9223372036854775808 ≤ ((4 : Int) * 6) ∧ ((4 : Int) * 6) < 9223372036854775808) ∧ (0 ≤ (24 : Int) ∧ (24 : Int) ≤ ((xs.length : Nat) : Int)) ∧ True) rfl (by kernel_rfl) ⟨trivial, (by decide), trivial, trivial, (by decide), (by omega), trivial⟩ ?_
  obtain ⟨zs50, hz51⟩ : ∃ z : List Int, z = (xs.drop 24).take (xs.length - 24) := ⟨_, rfl⟩
  have hl52 : zs50.length = xs.length - 24 := by rw [hz51, List.length_take, List.length_drop]; omega
  have hB54_t : Tells (vw A (nums .u8 xs)) (subBase A 24 c 1) (nums .u8 zs50) := by rw [hz51]; exact tells_sub_nums (tells_vw _ _) _ _ _ (by omega) (by omega)
  have hA55 : 0 < zs50.length → Option.isSome (subBase A 24 c 1) = true := fun h => part_some (hA1 (by omega)) _ _ _
  refine RunR.ev [0, 1, 2, 6, 7, 11, 15, 19] [(0, .slice A xs.length c), (1, .slice A2 ys.length c2), (2, .int .u32 n), (6, pt b3), (7, pt b5), (11, .int .i64 6), (15, .int .i64 10), (19, .slice (subBase A 24 c 1) (xs.length - 24) (c - 24))] ?_
  refine RunR.enveq [(0, .slice A xs.length c), (1, .slice A2 ys.length c2), (2, .int .u32 n), (6, pt b3), (7, pt b5), (11, .int .i64 6), (15, .int .i64 10), (19, .slice (subBase A 24 c 1) zs50.length (c - 24))] (by rw [hl52]) ?_
  have hr56 : In .u8 zs50 := by rw [hz51]; exact (hx.drop _).take _
  refine RunR.st (some 20) (.call { callee := .value (.func 89), args := #[.tmp 19], argTypes := #[24] }) (Step.cl 89 [.slice (subBase A 24 c 1) zs50.length (c - 24)] [] [vw (subBase A 24 c 1) (nums .u8 zs50)] [blk b5 105 (nums .u32 ([1634760805, 857760878, 2036477234, 1797285236, leN zs8 4, leN zs15 4, leN zs22 4, leN zs29 4, leN zs36 4, leN zs43 4, 0, 0, 0, 0, 0, 0] : List Int)), blk b3 105 (nums .u32 (List.replicate 16 (0 : Int))), vw A (nums .u8 xs), vw A2 (nums .u8 ys)] (w_Get32_spec (subBase A 24 c 1) (c - 24) zs50 zs50.length hr56 (by omega) (by rfl)) [] ((Lend.nil _).tells 2 (vw A (nums .u8 xs)) (subBase A 24 c 1) (nums .u8 zs50) (by kernel_rfl) (hB54_t)) ?_)
  rintro _ _ ⟨rfl, rfl⟩
  refine RunR.sil hU [] 1 8 [0, 1, 2, 6, 7, 11, 20, 21] [(0, .slice A xs.length c), (1, .slice A2 ys.length c2), (2, .int .u32 n), (6, pt b3), (7, pt b5), (11, .int .i64 6), (20, .int .u32 (leN zs50 4)), (21, .pointer (some ⟨b5, 10, none⟩))] ((0 ≤ (10 : Int) ∧ (10 : Int) < ((16 : Nat) : Int)) ∧ True) rfl (by kernel_rfl) ⟨(by omega), trivial⟩ ?_
  refine RunR.st none (.store 53 (.tmp 21) (.tmp 20)) (Step.store_blknum hU 0 b5 (10) 105 10 .u32 ([1634760805, 857760878, 2036477234, 1797285236, leN zs8 4, leN zs15 4, leN zs22 4, leN zs29 4, leN zs36 4, leN zs43 4, 0, 0, 0, 0, 0, 0] : List Int) (leN zs50 4) (by kernel_rfl) (by kernel_rfl) (by kernel_rfl) rfl (by omega) (by (simp only [List.length_cons, List.length_nil]; omega)) ?_)
  refine RunR.turn ([blk b5 105 (nums .u32 ([1634760805, 857760878, 2036477234, 1797285236, leN zs8 4, leN zs15 4, leN zs22 4, leN zs29 4, leN zs36 4, leN zs43 4, leN zs50 4, 0, 0, 0, 0, 0] : List Int)), blk b3 105 (nums .u32 (List.replicate 16 (0 : Int))), vw A (nums .u8 xs), vw A2 (nums .u8 ys)]) (fun _ _ w hs => hs) ?_
  refine RunR.dn ?_
  refine kblock_n ?_
  refine kseq_n ?_
  refine RunC.region ?_
  refine RunR.sil hU [0] 2 2 [0, 1, 2, 6, 7, 11] [(0, .slice A xs.length c), (1, .slice A2 ys.length c2), (2, .int .u32 n), (6, pt b3), (7, pt b5), (11, .int .i64 7)] ((-9223372036854775808 ≤ ((6 : Int) + 1) ∧ ((6 : Int) + 1) < 9223372036854775808) ∧ (True) ∧ True) rfl (by kernel_rfl) ⟨(by decide), trivial, trivial⟩ ?_
  refine RunR.dn ?_
  refine kround_n ?_
  refine RunC.sr ?_
  refine RunR.sl hU [] 1 1 [0, 1, 2, 6, 7, 11, 12] [(0, .slice A xs.length c), (1, .slice A2 ys.length c2), (2, .int .u32 n), (6, pt b3), (7, pt b5), (11, .int .i64 7), (12, .bool true)] 1 ?_
  refine RunR.nn ?_
  refine RunC.seq ?_
  refine RunC.cond (b := true) (by kernel_rfl) (fun _ => ?_) (fun h => by cases h)
  refine RunC.ks ?_
  refine RunC.seq ?_
  refine RunC.block ?_
  refine RunC.sr ?_
  refine RunR.sl hU [] 2 2 [0, 1, 2, 6, 7, 8, 11] [(0, .slice A xs.length c), (1, .slice A2 ys.length c2), (2, .int .u32 n), (6, pt b3), (7, pt b5), (8, .int .i64 7), (11, .int .i64 7)] 2 ?_
  refine RunR.nn ?_
  refine RunC.region ?_
  refine RunR.sil hU [1, 4] 6 6 [0, 1, 2, 6, 7, 11, 15, 19] [(0, .slice A xs.length c), (1, .slice A2 ys.length c2), (2, .int .u32 n), (6, pt b3), (7, pt b5), (11, .int .i64 7), (15, .int .i64 11), (19, .slice (subBase A 28 c 1) (xs.length - 28) (c - 28))] ((True) ∧ (-9223372036854775808 ≤ ((4 : Int) + 7) ∧ ((4 : Int) + 7) < 9223372036854775808) ∧ (True) ∧ (True) ∧ (-9223372036854775808 ≤ ((4 : Int) * 7) ∧ ((4 : Int) * 7) < 9223372036854775808) ∧ (0 ≤ (28 : Int) ∧ (28 : Int) ≤ ((xs.length : Nat) : Int)) ∧ True) rfl (by kernel_rfl) ⟨trivial, (by decide), trivial, trivial, (by decide), (by omega), trivial⟩ ?_
  obtain ⟨zs57, hz58⟩ : ∃ z : List Int, z = (xs.drop 28).take (xs.length - 28) := ⟨_, rfl⟩
  have hl59 : zs57.length = xs.length - 28 := by rw [hz58, List.length_take, List.length_drop]; omega
  have hB61_t : Tells (vw A (nums .u8 xs)) (subBase A 28 c 1) (nums .u8 zs57) := by rw [hz58]; exact tells_sub_nums (tells_vw _ _) _ _ _ (by omega) (by omega)
  have hA62 : 0 < zs57.length → Option.isSome (subBase A 28 c 1) = true := fun h => part_some (hA1 (by omega)) _ _ _
  refine RunR.ev [0, 1, 2, 6, 7, 11, 15, 19] [(0, .slice A xs.length c), (1, .slice A2 ys.length c2), (2, .int .u32 n), (6, pt b3), (7, pt b5), (11, .int .i64 7), (15, .int .i64 11), (19, .slice (subBase A 28 c 1) (xs.length - 28) (c - 28))] ?_
  refine RunR.enveq [(0, .slice A xs.length c), (1, .slice A2 ys.length c2), (2, .int .u32 n), (6, pt b3), (7, pt b5), (11, .int .i64 7), (15, .int .i64 11), (19, .slice (subBase A 28 c 1) zs57.length (c - 28))] (by rw [hl59]) ?_
  have hr63 : In .u8 zs57 := by rw [hz58]; exact (hx.drop _).take _
  refine RunR.st (some 20) (.call { callee := .value (.func 89), args := #[.tmp 19], argTypes := #[24] }) (Step.cl 89 [.slice (subBase A 28 c 1) zs57.length (c - 28)] [] [vw (subBase A 28 c 1) (nums .u8 zs57)] [blk b5 105 (nums .u32 ([1634760805, 857760878, 2036477234, 1797285236, leN zs8 4, leN zs15 4, leN zs22 4, leN zs29 4, leN zs36 4, leN zs43 4, leN zs50 4, 0, 0, 0, 0, 0] : List Int)), blk b3 105 (nums .u32 (List.replicate 16 (0 : Int))), vw A (nums .u8 xs), vw A2 (nums .u8 ys)] (w_Get32_spec (subBase A 28 c 1) (c - 28) zs57 zs57.length hr63 (by omega) (by rfl)) [] ((Lend.nil _).tells 2 (vw A (nums .u8 xs)) (subBase A 28 c 1) (nums .u8 zs57) (by kernel_rfl) (hB61_t)) ?_)
  rintro _ _ ⟨rfl, rfl⟩
  refine RunR.sil hU [] 1 8 [0, 1, 2, 6, 7, 11, 20, 21] [(0, .slice A xs.length c), (1, .slice A2 ys.length c2), (2, .int .u32 n), (6, pt b3), (7, pt b5), (11, .int .i64 7), (20, .int .u32 (leN zs57 4)), (21, .pointer (some ⟨b5, 11, none⟩))] ((0 ≤ (11 : Int) ∧ (11 : Int) < ((16 : Nat) : Int)) ∧ True) rfl (by kernel_rfl) ⟨(by omega), trivial⟩ ?_
  refine RunR.st none (.store 53 (.tmp 21) (.tmp 20)) (Step.store_blknum hU 0 b5 (11) 105 11 .u32 ([1634760805, 857760878, 2036477234, 1797285236, leN zs8 4, leN zs15 4, leN zs22 4, leN zs29 4, leN zs36 4, leN zs43 4, leN zs50 4, 0, 0, 0, 0, 0] : List Int) (leN zs57 4) (by kernel_rfl) (by kernel_rfl) (by kernel_rfl) rfl (by omega) (by (simp only [List.length_cons, List.length_nil]; omega)) ?_)
  refine RunR.turn ([blk b5 105 (nums .u32 ([1634760805, 857760878, 2036477234, 1797285236, leN zs8 4, leN zs15 4, leN zs22 4, leN zs29 4, leN zs36 4, leN zs43 4, leN zs50 4, leN zs57 4, 0, 0, 0, 0] : List Int)), blk b3 105 (nums .u32 (List.replicate 16 (0 : Int))), vw A (nums .u8 xs), vw A2 (nums .u8 ys)]) (fun _ _ w hs => hs) ?_
  refine RunR.dn ?_
  refine kblock_n ?_
  refine kseq_n ?_
  refine RunC.region ?_
  refine RunR.sil hU [0] 2 2 [0, 1, 2, 6, 7, 11] [(0, .slice A xs.length c), (1, .slice A2 ys.length c2), (2, .int .u32 n), (6, pt b3), (7, pt b5), (11, .int .i64 8)] ((-9223372036854775808 ≤ ((7 : Int) + 1) ∧ ((7 : Int) + 1) < 9223372036854775808) ∧ (True) ∧ True) rfl (by kernel_rfl) ⟨(by decide), trivial, trivial⟩ ?_
  refine RunR.dn ?_
  refine kround_n ?_
  refine RunC.sr ?_
  refine RunR.sl hU [] 1 1 [0, 1, 2, 6, 7, 11, 12] [(0, .slice A xs.length c), (1, .slice A2 ys.length c2), (2, .int .u32 n), (6, pt b3), (7, pt b5), (11, .int .i64 8), (12, .bool false)] 1 ?_
  refine RunR.nn ?_
  refine RunC.seq ?_
  refine RunC.cond (b := false) (by kernel_rfl) (fun h => by cases h) (fun _ => ?_)
  refine RunC.exit ?_
  refine kseq_e ?_
  refine kround_e ?_
  refine kblock_e ?_
  refine kseq_n ?_
  refine RunC.sr ?_
  refine RunR.sil hU [] 2 2 [1, 6, 7, 23, 24] [(1, .slice A2 ys.length c2), (6, pt b3), (7, pt b5), (23, .int .u32 n), (24, .pointer (some ⟨b5, 12, none⟩))] ((True) ∧ (0 ≤ (12 : Int) ∧ (12 : Int) < ((16 : Nat) : Int)) ∧ True) rfl (by kernel_rfl) ⟨trivial, (by omega), trivial⟩ ?_
  refine RunR.st none (.store 53 (.tmp 24) (.tmp 23)) (Step.store_blknum hU 0 b5 (12) 105 12 .u32 ([1634760805, 857760878, 2036477234, 1797285236, leN zs8 4, leN zs15 4, leN zs22 4, leN zs29 4, leN zs36 4, leN zs43 4, leN zs50 4, leN zs57 4, 0, 0, 0, 0] : List Int) n (by kernel_rfl) (by kernel_rfl) (by kernel_rfl) rfl (by omega) (by (simp only [List.length_cons, List.length_nil]; omega)) ?_)
  refine RunR.turn ([blk b5 105 (nums .u32 ([1634760805, 857760878, 2036477234, 1797285236, leN zs8 4, leN zs15 4, leN zs22 4, leN zs29 4, leN zs36 4, leN zs43 4, leN zs50 4, leN zs57 4, n, 0, 0, 0] : List Int)), blk b3 105 (nums .u32 (List.replicate 16 (0 : Int))), vw A (nums .u8 xs), vw A2 (nums .u8 ys)]) (fun _ _ w hs => hs) ?_
  refine RunR.nn ?_
  refine RunC.seq ?_
  refine RunC.sr ?_
  refine RunR.sl hU [] 1 1 [1, 6, 7, 25] [(1, .slice A2 ys.length c2), (6, pt b3), (7, pt b5), (25, .int .i64 0)] 1 ?_
  refine RunR.nn ?_
  refine RunC.block ?_
  refine RunC.unroll 3 ?_
  refine RunC.sr ?_
  refine RunR.sl hU [] 1 1 [1, 6, 7, 25, 26] [(1, .slice A2 ys.length c2), (6, pt b3), (7, pt b5), (25, .int .i64 0), (26, .bool true)] 1 ?_
  refine RunR.nn ?_
  refine RunC.seq ?_
  refine RunC.cond (b := true) (by kernel_rfl) (fun _ => ?_) (fun h => by cases h)
  refine RunC.ks ?_
  refine RunC.seq ?_
  refine RunC.block ?_
  refine RunC.sr ?_
  refine RunR.sl hU [] 2 2 [1, 6, 7, 9, 25] [(1, .slice A2 ys.length c2), (6, pt b3), (7, pt b5), (9, .int .i64 0), (25, .int .i64 0)] 2 ?_
  refine RunR.nn ?_
  refine RunC.region ?_
  refine RunR.sil hU [1, 4] 6 6 [1, 6, 7, 25, 29, 33] [(1, .slice A2 ys.length c2), (6, pt b3), (7, pt b5), (25, .int .i64 0), (29, .int .i64 13), (33, .slice (subBase A2 0 c2 1) (ys.length - 0) (c2 - 0))] ((True) ∧ (-9223372036854775808 ≤ ((13 : Int) + 0) ∧ ((13 : Int) + 0) < 9223372036854775808) ∧ (True) ∧ (True) ∧ (-9223372036854775808 ≤ ((4 : Int) * 0) ∧ ((4 : Int) * 0) < 9223372036854775808) ∧ (0 ≤ (0 : Int) ∧ (0 : Int) ≤ ((ys.length : Nat) : Int)) ∧ True) rfl (by kernel_rfl) ⟨trivial, (by decide), trivial, trivial, (by decide), (by omega), trivial⟩ ?_
  obtain ⟨zs64, hz65⟩ : ∃ z : List Int, z = (ys.drop 0).take (ys.length - 0) := ⟨_, rfl⟩
  have hl66 : zs64.length = ys.length - 0 := by rw [hz65, List.length_take, List.length_drop]; omega
  have hB68_t : Tells (vw A2 (nums .u8 ys)) (subBase A2 0 c2 1) (nums .u8 zs64) := by rw [hz65]; exact tells_sub_nums (tells_vw _ _) _ _ _ (by omega) (by omega)
  have hA69 : 0 < zs64.length → Option.isSome (subBase A2 0 c2 1) = true := fun h => part_some (hA2 (by omega)) _ _ _
  refine RunR.ev [1, 6, 7, 25, 29, 33] [(1, .slice A2 ys.length c2), (6, pt b3), (7, pt b5), (25, .int .i64 0), (29, .int .i64 13), (33, .slice (subBase A2 0 c2 1) (ys.length - 0) (c2 - 0))] ?_
  refine RunR.enveq [(1, .slice A2 ys.length c2), (6, pt b3), (7, pt b5), (25, .int .i64 0), (29, .int .i64 13), (33, .slice (subBase A2 0 c2 1) zs64.length (c2 - 0))] (by rw [hl66]) ?_
  have hr70 : In .u8 zs64 := by rw [hz65]; exact (hy.drop _).take _
  refine RunR.st (some 34) (.call { callee := .value (.func 89), args := #[.tmp 33], argTypes := #[24] }) (Step.cl 89 [.slice (subBase A2 0 c2 1) zs64.length (c2 - 0)] [] [vw (subBase A2 0 c2 1) (nums .u8 zs64)] [blk b5 105 (nums .u32 ([1634760805, 857760878, 2036477234, 1797285236, leN zs8 4, leN zs15 4, leN zs22 4, leN zs29 4, leN zs36 4, leN zs43 4, leN zs50 4, leN zs57 4, n, 0, 0, 0] : List Int)), blk b3 105 (nums .u32 (List.replicate 16 (0 : Int))), vw A (nums .u8 xs), vw A2 (nums .u8 ys)] (w_Get32_spec (subBase A2 0 c2 1) (c2 - 0) zs64 zs64.length hr70 (by omega) (by rfl)) [] ((Lend.nil _).tells 3 (vw A2 (nums .u8 ys)) (subBase A2 0 c2 1) (nums .u8 zs64) (by kernel_rfl) (hB68_t)) ?_)
  rintro _ _ ⟨rfl, rfl⟩
  refine RunR.sil hU [] 1 8 [1, 6, 7, 25, 34, 35] [(1, .slice A2 ys.length c2), (6, pt b3), (7, pt b5), (25, .int .i64 0), (34, .int .u32 (leN zs64 4)), (35, .pointer (some ⟨b5, 13, none⟩))] ((0 ≤ (13 : Int) ∧ (13 : Int) < ((16 : Nat) : Int)) ∧ True) rfl (by kernel_rfl) ⟨(by omega), trivial⟩ ?_
  refine RunR.st none (.store 53 (.tmp 35) (.tmp 34)) (Step.store_blknum hU 0 b5 (13) 105 13 .u32 ([1634760805, 857760878, 2036477234, 1797285236, leN zs8 4, leN zs15 4, leN zs22 4, leN zs29 4, leN zs36 4, leN zs43 4, leN zs50 4, leN zs57 4, n, 0, 0, 0] : List Int) (leN zs64 4) (by kernel_rfl) (by kernel_rfl) (by kernel_rfl) rfl (by omega) (by (simp only [List.length_cons, List.length_nil]; omega)) ?_)
  refine RunR.turn ([blk b5 105 (nums .u32 ([1634760805, 857760878, 2036477234, 1797285236, leN zs8 4, leN zs15 4, leN zs22 4, leN zs29 4, leN zs36 4, leN zs43 4, leN zs50 4, leN zs57 4, n, leN zs64 4, 0, 0] : List Int)), blk b3 105 (nums .u32 (List.replicate 16 (0 : Int))), vw A (nums .u8 xs), vw A2 (nums .u8 ys)]) (fun _ _ w hs => hs) ?_
  refine RunR.dn ?_
  refine kblock_n ?_
  refine kseq_n ?_
  refine RunC.region ?_
  refine RunR.sil hU [0] 2 2 [1, 6, 7, 25] [(1, .slice A2 ys.length c2), (6, pt b3), (7, pt b5), (25, .int .i64 1)] ((-9223372036854775808 ≤ ((0 : Int) + 1) ∧ ((0 : Int) + 1) < 9223372036854775808) ∧ (True) ∧ True) rfl (by kernel_rfl) ⟨(by decide), trivial, trivial⟩ ?_
  refine RunR.dn ?_
  refine kround_n ?_
  refine RunC.sr ?_
  refine RunR.sl hU [] 1 1 [1, 6, 7, 25, 26] [(1, .slice A2 ys.length c2), (6, pt b3), (7, pt b5), (25, .int .i64 1), (26, .bool true)] 1 ?_
  refine RunR.nn ?_
  refine RunC.seq ?_
  refine RunC.cond (b := true) (by kernel_rfl) (fun _ => ?_) (fun h => by cases h)
  refine RunC.ks ?_
  refine RunC.seq ?_
  refine RunC.block ?_
  refine RunC.sr ?_
  refine RunR.sl hU [] 2 2 [1, 6, 7, 9, 25] [(1, .slice A2 ys.length c2), (6, pt b3), (7, pt b5), (9, .int .i64 1), (25, .int .i64 1)] 2 ?_
  refine RunR.nn ?_
  refine RunC.region ?_
  refine RunR.sil hU [1, 4] 6 6 [1, 6, 7, 25, 29, 33] [(1, .slice A2 ys.length c2), (6, pt b3), (7, pt b5), (25, .int .i64 1), (29, .int .i64 14), (33, .slice (subBase A2 4 c2 1) (ys.length - 4) (c2 - 4))] ((True) ∧ (-9223372036854775808 ≤ ((13 : Int) + 1) ∧ ((13 : Int) + 1) < 9223372036854775808) ∧ (True) ∧ (True) ∧ (-9223372036854775808 ≤ ((4 : Int) * 1) ∧ ((4 : Int) * 1) < 9223372036854775808) ∧ (0 ≤ (4 : Int) ∧ (4 : Int) ≤ ((ys.length : Nat) : Int)) ∧ True) rfl (by kernel_rfl) ⟨trivial, (by decide), trivial, trivial, (by decide), (by omega), trivial⟩ ?_
  obtain ⟨zs71, hz72⟩ : ∃ z : List Int, z = (ys.drop 4).take (ys.length - 4) := ⟨_, rfl⟩
  have hl73 : zs71.length = ys.length - 4 := by rw [hz72, List.length_take, List.length_drop]; omega
  have hB75_t : Tells (vw A2 (nums .u8 ys)) (subBase A2 4 c2 1) (nums .u8 zs71) := by rw [hz72]; exact tells_sub_nums (tells_vw _ _) _ _ _ (by omega) (by omega)
  have hA76 : 0 < zs71.length → Option.isSome (subBase A2 4 c2 1) = true := fun h => part_some (hA2 (by omega)) _ _ _
  refine RunR.ev [1, 6, 7, 25, 29, 33] [(1, .slice A2 ys.length c2), (6, pt b3), (7, pt b5), (25, .int .i64 1), (29, .int .i64 14), (33, .slice (subBase A2 4 c2 1) (ys.length - 4) (c2 - 4))] ?_
  refine RunR.enveq [(1, .slice A2 ys.length c2), (6, pt b3), (7, pt b5), (25, .int .i64 1), (29, .int .i64 14), (33, .slice (subBase A2 4 c2 1) zs71.length (c2 - 4))] (by rw [hl73]) ?_
  have hr77 : In .u8 zs71 := by rw [hz72]; exact (hy.drop _).take _
  refine RunR.st (some 34) (.call { callee := .value (.func 89), args := #[.tmp 33], argTypes := #[24] }) (Step.cl 89 [.slice (subBase A2 4 c2 1) zs71.length (c2 - 4)] [] [vw (subBase A2 4 c2 1) (nums .u8 zs71)] [blk b5 105 (nums .u32 ([1634760805, 857760878, 2036477234, 1797285236, leN zs8 4, leN zs15 4, leN zs22 4, leN zs29 4, leN zs36 4, leN zs43 4, leN zs50 4, leN zs57 4, n, leN zs64 4, 0, 0] : List Int)), blk b3 105 (nums .u32 (List.replicate 16 (0 : Int))), vw A (nums .u8 xs), vw A2 (nums .u8 ys)] (w_Get32_spec (subBase A2 4 c2 1) (c2 - 4) zs71 zs71.length hr77 (by omega) (by rfl)) [] ((Lend.nil _).tells 3 (vw A2 (nums .u8 ys)) (subBase A2 4 c2 1) (nums .u8 zs71) (by kernel_rfl) (hB75_t)) ?_)
  rintro _ _ ⟨rfl, rfl⟩
  refine RunR.sil hU [] 1 8 [1, 6, 7, 25, 34, 35] [(1, .slice A2 ys.length c2), (6, pt b3), (7, pt b5), (25, .int .i64 1), (34, .int .u32 (leN zs71 4)), (35, .pointer (some ⟨b5, 14, none⟩))] ((0 ≤ (14 : Int) ∧ (14 : Int) < ((16 : Nat) : Int)) ∧ True) rfl (by kernel_rfl) ⟨(by omega), trivial⟩ ?_
  refine RunR.st none (.store 53 (.tmp 35) (.tmp 34)) (Step.store_blknum hU 0 b5 (14) 105 14 .u32 ([1634760805, 857760878, 2036477234, 1797285236, leN zs8 4, leN zs15 4, leN zs22 4, leN zs29 4, leN zs36 4, leN zs43 4, leN zs50 4, leN zs57 4, n, leN zs64 4, 0, 0] : List Int) (leN zs71 4) (by kernel_rfl) (by kernel_rfl) (by kernel_rfl) rfl (by omega) (by (simp only [List.length_cons, List.length_nil]; omega)) ?_)
  refine RunR.turn ([blk b5 105 (nums .u32 ([1634760805, 857760878, 2036477234, 1797285236, leN zs8 4, leN zs15 4, leN zs22 4, leN zs29 4, leN zs36 4, leN zs43 4, leN zs50 4, leN zs57 4, n, leN zs64 4, leN zs71 4, 0] : List Int)), blk b3 105 (nums .u32 (List.replicate 16 (0 : Int))), vw A (nums .u8 xs), vw A2 (nums .u8 ys)]) (fun _ _ w hs => hs) ?_
  refine RunR.dn ?_
  refine kblock_n ?_
  refine kseq_n ?_
  refine RunC.region ?_
  refine RunR.sil hU [0] 2 2 [1, 6, 7, 25] [(1, .slice A2 ys.length c2), (6, pt b3), (7, pt b5), (25, .int .i64 2)] ((-9223372036854775808 ≤ ((1 : Int) + 1) ∧ ((1 : Int) + 1) < 9223372036854775808) ∧ (True) ∧ True) rfl (by kernel_rfl) ⟨(by decide), trivial, trivial⟩ ?_
  refine RunR.dn ?_
  refine kround_n ?_
  refine RunC.sr ?_
  refine RunR.sl hU [] 1 1 [1, 6, 7, 25, 26] [(1, .slice A2 ys.length c2), (6, pt b3), (7, pt b5), (25, .int .i64 2), (26, .bool true)] 1 ?_
  refine RunR.nn ?_
  refine RunC.seq ?_
  refine RunC.cond (b := true) (by kernel_rfl) (fun _ => ?_) (fun h => by cases h)
  refine RunC.ks ?_
  refine RunC.seq ?_
  refine RunC.block ?_
  refine RunC.sr ?_
  refine RunR.sl hU [] 2 2 [1, 6, 7, 9, 25] [(1, .slice A2 ys.length c2), (6, pt b3), (7, pt b5), (9, .int .i64 2), (25, .int .i64 2)] 2 ?_
  refine RunR.nn ?_
  refine RunC.region ?_
  refine RunR.sil hU [1, 4] 6 6 [1, 6, 7, 25, 29, 33] [(1, .slice A2 ys.length c2), (6, pt b3), (7, pt b5), (25, .int .i64 2), (29, .int .i64 15), (33, .slice (subBase A2 8 c2 1) (ys.length - 8) (c2 - 8))] ((True) ∧ (-9223372036854775808 ≤ ((13 : Int) + 2) ∧ ((13 : Int) + 2) < 9223372036854775808) ∧ (True) ∧ (True) ∧ (-9223372036854775808 ≤ ((4 : Int) * 2) ∧ ((4 : Int) * 2) < 9223372036854775808) ∧ (0 ≤ (8 : Int) ∧ (8 : Int) ≤ ((ys.length : Nat) : Int)) ∧ True) rfl (by kernel_rfl) ⟨trivial, (by decide), trivial, trivial, (by decide), (by omega), trivial⟩ ?_
  obtain ⟨zs78, hz79⟩ : ∃ z : List Int, z = (ys.drop 8).take (ys.length - 8) := ⟨_, rfl⟩
  have hl80 : zs78.length = ys.length - 8 := by rw [hz79, List.length_take, List.length_drop]; omega
  have hB82_t : Tells (vw A2 (nums .u8 ys)) (subBase A2 8 c2 1) (nums .u8 zs78) := by rw [hz79]; exact tells_sub_nums (tells_vw _ _) _ _ _ (by omega) (by omega)
  have hA83 : 0 < zs78.length → Option.isSome (subBase A2 8 c2 1) = true := fun h => part_some (hA2 (by omega)) _ _ _
  refine RunR.ev [1, 6, 7, 25, 29, 33] [(1, .slice A2 ys.length c2), (6, pt b3), (7, pt b5), (25, .int .i64 2), (29, .int .i64 15), (33, .slice (subBase A2 8 c2 1) (ys.length - 8) (c2 - 8))] ?_
  refine RunR.enveq [(1, .slice A2 ys.length c2), (6, pt b3), (7, pt b5), (25, .int .i64 2), (29, .int .i64 15), (33, .slice (subBase A2 8 c2 1) zs78.length (c2 - 8))] (by rw [hl80]) ?_
  have hr84 : In .u8 zs78 := by rw [hz79]; exact (hy.drop _).take _
  refine RunR.st (some 34) (.call { callee := .value (.func 89), args := #[.tmp 33], argTypes := #[24] }) (Step.cl 89 [.slice (subBase A2 8 c2 1) zs78.length (c2 - 8)] [] [vw (subBase A2 8 c2 1) (nums .u8 zs78)] [blk b5 105 (nums .u32 ([1634760805, 857760878, 2036477234, 1797285236, leN zs8 4, leN zs15 4, leN zs22 4, leN zs29 4, leN zs36 4, leN zs43 4, leN zs50 4, leN zs57 4, n, leN zs64 4, leN zs71 4, 0] : List Int)), blk b3 105 (nums .u32 (List.replicate 16 (0 : Int))), vw A (nums .u8 xs), vw A2 (nums .u8 ys)] (w_Get32_spec (subBase A2 8 c2 1) (c2 - 8) zs78 zs78.length hr84 (by omega) (by rfl)) [] ((Lend.nil _).tells 3 (vw A2 (nums .u8 ys)) (subBase A2 8 c2 1) (nums .u8 zs78) (by kernel_rfl) (hB82_t)) ?_)
  rintro _ _ ⟨rfl, rfl⟩
  refine RunR.sil hU [] 1 8 [1, 6, 7, 25, 34, 35] [(1, .slice A2 ys.length c2), (6, pt b3), (7, pt b5), (25, .int .i64 2), (34, .int .u32 (leN zs78 4)), (35, .pointer (some ⟨b5, 15, none⟩))] ((0 ≤ (15 : Int) ∧ (15 : Int) < ((16 : Nat) : Int)) ∧ True) rfl (by kernel_rfl) ⟨(by omega), trivial⟩ ?_
  refine RunR.st none (.store 53 (.tmp 35) (.tmp 34)) (Step.store_blknum hU 0 b5 (15) 105 15 .u32 ([1634760805, 857760878, 2036477234, 1797285236, leN zs8 4, leN zs15 4, leN zs22 4, leN zs29 4, leN zs36 4, leN zs43 4, leN zs50 4, leN zs57 4, n, leN zs64 4, leN zs71 4, 0] : List Int) (leN zs78 4) (by kernel_rfl) (by kernel_rfl) (by kernel_rfl) rfl (by omega) (by (simp only [List.length_cons, List.length_nil]; omega)) ?_)
  refine RunR.turn ([blk b5 105 (nums .u32 ([1634760805, 857760878, 2036477234, 1797285236, leN zs8 4, leN zs15 4, leN zs22 4, leN zs29 4, leN zs36 4, leN zs43 4, leN zs50 4, leN zs57 4, n, leN zs64 4, leN zs71 4, leN zs78 4] : List Int)), blk b3 105 (nums .u32 (List.replicate 16 (0 : Int))), vw A (nums .u8 xs), vw A2 (nums .u8 ys)]) (fun _ _ w hs => hs) ?_
  refine RunR.dn ?_
  refine kblock_n ?_
  refine kseq_n ?_
  refine RunC.region ?_
  refine RunR.sil hU [0] 2 2 [1, 6, 7, 25] [(1, .slice A2 ys.length c2), (6, pt b3), (7, pt b5), (25, .int .i64 3)] ((-9223372036854775808 ≤ ((2 : Int) + 1) ∧ ((2 : Int) + 1) < 9223372036854775808) ∧ (True) ∧ True) rfl (by kernel_rfl) ⟨(by decide), trivial, trivial⟩ ?_
  refine RunR.dn ?_
  refine kround_n ?_
  refine RunC.sr ?_
  refine RunR.sl hU [] 1 1 [1, 6, 7, 25, 26] [(1, .slice A2 ys.length c2), (6, pt b3), (7, pt b5), (25, .int .i64 3), (26, .bool false)] 1 ?_
  refine RunR.nn ?_
  refine RunC.seq ?_
  refine RunC.cond (b := false) (by kernel_rfl) (fun h => by cases h) (fun _ => ?_)
  refine RunC.exit ?_
  refine kseq_e ?_
  refine kround_e ?_
  refine kblock_e ?_
  refine kseq_n ?_
  refine RunC.sr ?_
  refine RunR.st (some 37) (.load 105 (.tmp 7)) (Step.load_arr hU 0 b5 105 16 .u32 ([1634760805, 857760878, 2036477234, 1797285236, leN zs8 4, leN zs15 4, leN zs22 4, leN zs29 4, leN zs36 4, leN zs43 4, leN zs50 4, leN zs57 4, n, leN zs64 4, leN zs71 4, leN zs78 4] : List Int) (by kernel_rfl) (by kernel_rfl) (by kernel_rfl) (by kernel_rfl) (by rfl) (by kernel_rfl) ?_)
  refine RunR.st none (.store 105 (.tmp 6) (.tmp 37)) (Step.store_arr hU 1 b3 105 16 .u32 (List.replicate 16 (0 : Int)) ([1634760805, 857760878, 2036477234, 1797285236, leN zs8 4, leN zs15 4, leN zs22 4, leN zs29 4, leN zs36 4, leN zs43 4, leN zs50 4, leN zs57 4, n, leN zs64 4, leN zs71 4, leN zs78 4] : List Int) (by kernel_rfl) (by kernel_rfl) (by kernel_rfl) (by kernel_rfl) (by rfl) (by rfl) ?_)
  have hl85 : (([1634760805, 857760878, 2036477234, 1797285236, leN zs8 4, leN zs15 4, leN zs22 4, leN zs29 4, leN zs36 4, leN zs43 4, leN zs50 4, leN zs57 4, n, leN zs64 4, leN zs71 4, leN zs78 4] : List Int)).length = 16 := rfl
  refine RunR.nn ?_
  refine RunC.ret ?_
  refine kret_r [.agg (nums .u32 ([1634760805, 857760878, 2036477234, 1797285236, leN zs8 4, leN zs15 4, leN zs22 4, leN zs29 4, leN zs36 4, leN zs43 4, leN zs50 4, leN zs57 4, n, leN zs64 4, leN zs71 4, leN zs78 4] : List Int)).toArray] [] [] ⟨⟨0, b3, 0, 105, nums .u32 ([1634760805, 857760878, 2036477234, 1797285236, leN zs8 4, leN zs15 4, leN zs22 4, leN zs29 4, leN zs36 4, leN zs43 4, leN zs50 4, leN zs57 4, n, leN zs64 4, leN zs71 4, leN zs78 4] : List Int), rfl, rfl, by kernel_rfl⟩, trivial⟩ (by kernel_rfl) rfl ⟨([1634760805, 857760878, 2036477234, 1797285236, leN zs8 4, leN zs15 4, leN zs22 4, leN zs29 4, leN zs36 4, leN zs43 4, leN zs50 4, leN zs57 4, n, leN zs64 4, leN zs71 4, leN zs78 4] : List Int), rfl, rfl, (by subst_vars; simp [begin_, kw, List.take_of_length_le, hxl, hyl, List.range, List.range.loop]), (by simp)⟩
end Go.Proofs.Ytkehpipialmneaa.X3
