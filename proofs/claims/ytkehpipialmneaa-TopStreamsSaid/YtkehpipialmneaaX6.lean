/- What these functions compute: a contract for each, walked through its code. -/
import Derived.Test.YtkehpipialmneaaSLzn
import Derived.Test.YtkehpipialmneaaBPure
import Derived.Test.YtkehpipialmneaaProg
import Derived.Test.YtkehpipialmneaaX1
import Derived.Test.YtkehpipialmneaaX2
import Derived.Test.YtkehpipialmneaaX3
import Derived.Test.YtkehpipialmneaaX4
import Derived.Test.YtkehpipialmneaaX5
namespace Go.Proofs.Ytkehpipialmneaa.X6
open Go Go.Proofs.Ytkehpipialmneaa.SL Go.Proofs.Ytkehpipialmneaa.SL.W Go.Proofs.Ytkehpipialmneaa.SL.C Go.Proofs.Ytkehpipialmneaa.SL.H Go.Proofs.Ytkehpipialmneaa.SL.M Go.Proofs.Ytkehpipialmneaa.SL.Y Go.Proofs.Ytkehpipialmneaa.SL.A Go.Proofs.Ytkehpipialmneaa.SL.B Go.Proofs.Ytkehpipialmneaa.X1 Go.Proofs.Ytkehpipialmneaa.X2 Go.Proofs.Ytkehpipialmneaa.X3 Go.Proofs.Ytkehpipialmneaa.X4 Go.Proofs.Ytkehpipialmneaa.X5
set_option linter.unusedVariables false
set_option linter.unusedSimpArgs false
set_option maxRecDepth 100000
set_option maxHeartbeats 40000000
def U : Tab where
  und := [(3, .int .i64), (5, .int .u8), (24, .slice 5)]
  fld := []
  sz := [(3, 1), (5, 1), (24, 1)]
  ti := [(3, (1, 8, .int .i64 0)), (5, (1, 1, .int .u8 0)), (24, (1, 24, .slice none 0 0))]
  bld := []

theorem hU : U.OK Try.prog where
  und := by
    intro p hp
    simp only [U, List.mem_cons, List.not_mem_nil, or_false] at hp
    rcases hp with rfl | rfl | rfl
    · exact Try.underlying3
    · exact Try.underlying5
    · exact Try.underlying24
  fld := by
    intro p hp; cases hp
  sz := by
    intro p hp
    simp only [U, List.mem_cons, List.not_mem_nil, or_false] at hp
    rcases hp with rfl | rfl | rfl
    · exact ⟨Try.prog.types[3]!, by kernel_rfl, by kernel_rfl⟩
    · exact ⟨Try.prog.types[5]!, by kernel_rfl, by kernel_rfl⟩
    · exact ⟨Try.prog.types[24]!, by kernel_rfl, by kernel_rfl⟩
  ti := by
    intro p hp
    simp only [U, List.mem_cons, List.not_mem_nil, or_false] at hp
    rcases hp with rfl | rfl | rfl
    · exact ⟨Try.prog.types[3]!, by kernel_rfl, by kernel_rfl, by kernel_rfl, by kernel_rfl⟩
    · exact ⟨Try.prog.types[5]!, by kernel_rfl, by kernel_rfl, by kernel_rfl, by kernel_rfl⟩
    · exact ⟨Try.prog.types[24]!, by kernel_rfl, by kernel_rfl, by kernel_rfl, by kernel_rfl⟩
  bld := by
    intro p hp; cases hp
  mixed := by kernel_rfl

theorem sl_Chunk16_it (A : Option Addr) (c : Nat) (xs : List Int) (b1 : Nat) (b2 : Nat) (hx : In .u8 xs) (hn : xs.length ≤ 140737488351232) (hlc : xs.length ≤ c) :
    IterS Try.prog 75 [pt b1, pt b2] ((xs.length + 15) / 16) (fun i_ => [.slice (subBase A (16 * i_) (16 * i_ + (chunk 16 xs i_).length) 1) ((chunk 16 xs i_).length) ((chunk 16 xs i_).length)]) (fun i_ => [vw (subBase A (16 * i_) (16 * i_ + (chunk 16 xs i_).length) 1) (nums .u8 (chunk 16 xs i_))]) [blk b1 24 [.slice A xs.length c], blk b2 3 [.int .i64 16]] [vw A (nums .u8 xs)] := by
  intro l B Sx S hB hSx hS hY
  refine CallsS.enter hU Try.f75 _ [] 31 Try.func75 rfl (by decide) rfl rfl (by kernel_rfl) fun w0 W => ?_
  refine RunC.only [0, 0, 0, 0, 0] [S 0, blk b1 24 [.slice A xs.length c], blk b2 3 [.int .i64 16], B, vw A (nums .u8 xs)] (by kernel_rfl) ?_
  refine RunC.know (p := 0 < xs.length → Option.isSome A = true) (fun _ _ w hs => vw_some hs 4 rfl (by first | (simp [nums_length]; done) | exact dosV_len _ | exact bls_len _ | exact chV_len _)) (fun hA1 => ?_)
  refine RunC.sr ?_
  refine RunR.sl hU [] 1 1 [0, 1, 2, 4] [(0, .func (.yield l) #[] #[]), (1, pt b1), (2, pt b2), (4, .int .i64 0)] 1 ?_
  refine RunR.nn ?_
  refine RunC.block ?_
  refine RunC.env [0, 1, 2, 4] [(0, .func (.yield l) #[] #[]), (1, pt b1), (2, pt b2), (4, .int .i64 0)] (by kernel_rfl) ?_
  refine RunC.only [0, 0, 0, 0, 0] [S 0, blk b1 24 [.slice A xs.length c], blk b2 3 [.int .i64 16], B, vw A (nums .u8 xs)] (by kernel_rfl) ?_
  refine RunC.loop (σ := Nat) (fun n_ t_ D_ => ∃ (i : Int) (q : Nat), (i = 16 * (q : Int)) ∧ (q ≤ (xs.length + 15) / 16) ∧ n_ = ((xs.length + 16 - i).toNat : Nat) ∧ t_ = [(0, .func (.yield l) #[] #[]), (1, pt b1), (2, pt b2), (4, .int .i64 i)] ∧ D_ = [S q, blk b1 24 [.slice A xs.length c], blk b2 3 [.int .i64 16], B, vw A (nums .u8 xs)]) id _ ⟨0, 0, (by first | assumption | omega | (simp only [List.length_append, List.length_cons, List.length_nil, List.length_set, List.length_replicate, List.length_take, List.length_drop]; omega) | (simp only [fits] at *; omega) | (simp only [List.length_append, List.length_cons, List.length_nil, List.length_set, List.length_replicate, List.length_take, List.length_drop] at *; omega) | (simp; done) | decide), (by first | assumption | omega | (simp only [List.length_append, List.length_cons, List.length_nil, List.length_set, List.length_replicate, List.length_take, List.length_drop]; omega) | (simp only [fits] at *; omega) | (simp only [List.length_append, List.length_cons, List.length_nil, List.length_set, List.length_replicate, List.length_take, List.length_drop] at *; omega) | (simp; done) | decide), rfl, rfl, rfl⟩ ?_
  rintro n_ _ _ ⟨i, q, hi, hq, rfl, rfl, rfl⟩
  refine RunC.seq ?_
  refine RunC.sr ?_
  refine RunR.sl hU [] 1 1 [0, 1, 2, 4, 6] [(0, .func (.yield l) #[] #[]), (1, pt b1), (2, pt b2), (4, .int .i64 i), (6, .int .i64 i)] 1 ?_
  refine RunR.st (some 7) (.load 24 (.tmp 1)) (Step.load_blk hU 1 b1 (0) 24 [.slice A xs.length c] (.slice A xs.length c) (by kernel_rfl) (by kernel_rfl) (by kernel_rfl) (by kernel_rfl) ?_)
  refine RunR.sl hU [] 2 4 [0, 1, 2, 4, 9] [(0, .func (.yield l) #[] #[]), (1, pt b1), (2, pt b2), (4, .int .i64 i), (9, .bool (decide (i < ((xs.length : Nat) : Int))))] 2 ?_
  refine RunR.nn ?_
  refine RunC.condp (i < ((xs.length : Nat) : Int)) (by kernel_rfl) (fun h2 => ?_) (fun h2 => ?_)
  · skip
    refine RunC.ks ?_
    refine RunC.seq ?_
    refine RunC.block ?_
    refine RunC.seq ?_
    refine RunC.regionU hU 7 [blk b2 3 [.int .i64 16], blk b1 24 [.slice A xs.length c]] [2, 1] [5, 6] (bm 7 0) (by kernel_rfl) (by kernel_rfl) (by kernel_rfl) ?_
    refine RunU.rd 0 (bm 7 1) 13 (.load 3 (.tmp 2)) (.int .i64 16) [2, 1] (Reads.load_blk hU 0 b2 (0) 3 [.int .i64 16] (.int .i64 16) (by kernel_rfl) (by kernel_rfl) (by kernel_rfl)) ?_
    refine RunU.rd 1 (bm 7 3) 14 (.load 24 (.tmp 1)) (.slice A xs.length c) [2, 1] (Reads.load_blk hU 1 b1 (0) 24 [.slice A xs.length c] (.slice A xs.length c) (by kernel_rfl) (by kernel_rfl) (by kernel_rfl)) ?_
    refine RunU.sl hU 2 (bm 7 7) 15 (.int .i64 i) ?_
    refine RunU.sil hU false 3 (bm 7 15) 16 (.slice (subBase A ((i).toNat) c 1) (xs.length - ((i).toNat)) (c - ((i).toNat))) (0 ≤ i ∧ i ≤ ((xs.length : Nat) : Int)) (by kernel_rfl) (by omega) (by kernel_rfl) (by kernel_rfl) (fun _ _ _ h => h) ?_
    obtain ⟨zs3, hz4⟩ : ∃ z : List Int, z = (xs.drop ((i).toNat)).take (xs.length - ((i).toNat)) := ⟨_, rfl⟩
    have hl5 : zs3.length = xs.length - ((i).toNat) := by rw [hz4, List.length_take, List.length_drop]; omega
    have hB7_t : Tells (vw A (nums .u8 xs)) (subBase A ((i).toNat) c 1) (nums .u8 zs3) := by rw [hz4]; exact tells_sub_nums (tells_vw _ _) _ _ _ (by omega) (by omega)
    have hA8 : 0 < zs3.length → Option.isSome (subBase A ((i).toNat) c 1) = true := fun h => part_some (hA1 (by omega)) _ _ _
    refine RunU.ev [0, 1, 2, 4, 9, 13, 14, 15, 16] [(0, .func (.yield l) #[] #[]), (1, pt b1), (2, pt b2), (4, .int .i64 i), (9, .bool (decide (i < ((xs.length : Nat) : Int)))), (13, .int .i64 16), (14, .slice A xs.length c), (15, .int .i64 i), (16, .slice (subBase A ((i).toNat) c 1) (xs.length - ((i).toNat)) (c - ((i).toNat)))] ?_
    refine RunU.enveq [(0, .func (.yield l) #[] #[]), (1, pt b1), (2, pt b2), (4, .int .i64 i), (9, .bool (decide (i < ((xs.length : Nat) : Int)))), (13, .int .i64 16), (14, .slice A xs.length c), (15, .int .i64 i), (16, .slice (subBase A ((i).toNat) c 1) zs3.length (c - ((i).toNat)))] (by rw [hl5]) ?_
    have hr9 : In .u8 zs3 := by rw [hz4]; exact (hx.drop _).take _
    refine RunU.sl hU 4 (bm 7 31) 17 (.int .i64 ((zs3.length : Nat) : Int)) ?_
    have hm10 : ((if ((zs3.length : Nat) : Int) < 16 then ((zs3.length : Nat) : Int) else 16) = (16 : Int) ∨ (if ((zs3.length : Nat) : Int) < 16 then ((zs3.length : Nat) : Int) else 16) = ((zs3.length : Nat) : Int)) ∧ (if ((zs3.length : Nat) : Int) < 16 then ((zs3.length : Nat) : Int) else 16) ≤ (16 : Int) ∧ (if ((zs3.length : Nat) : Int) < 16 then ((zs3.length : Nat) : Int) else 16) ≤ ((zs3.length : Nat) : Int) := by split <;> omega
    refine RunU.sl hU 5 (bm 7 63) 18 (.int .i64 (if ((zs3.length : Nat) : Int) < 16 then ((zs3.length : Nat) : Int) else 16)) ?_
    refine RunU.sl hU 6 (bm 7 127) 5 (.int .i64 (if ((zs3.length : Nat) : Int) < 16 then ((zs3.length : Nat) : Int) else 16)) ?_
    refine RunU.ev [0, 1, 2, 4, 5] [(0, .func (.yield l) #[] #[]), (1, pt b1), (2, pt b2), (4, .int .i64 i), (5, .int .i64 (if ((zs3.length : Nat) : Int) < 16 then ((zs3.length : Nat) : Int) else 16))] ?_
    refine RunU.dn ?_
    refine kseq_n ?_
    refine RunC.sr ?_
    refine RunR.sl hU [] 1 1 [0, 1, 2, 4, 5, 19] [(0, .func (.yield l) #[] #[]), (1, pt b1), (2, pt b2), (4, .int .i64 i), (5, .int .i64 (if ((zs3.length : Nat) : Int) < 16 then ((zs3.length : Nat) : Int) else 16)), (19, .func (.yield l) #[] #[])] 1 ?_
    refine RunR.st (some 20) (.load 24 (.tmp 1)) (Step.load_blk hU 1 b1 (0) 24 [.slice A xs.length c] (.slice A xs.length c) (by kernel_rfl) (by kernel_rfl) (by kernel_rfl) (by kernel_rfl) ?_)
    refine RunR.sil hU [5, 8] 8 10 [0, 1, 2, 4, 19, 28] [(0, .func (.yield l) #[] #[]), (1, pt b1), (2, pt b2), (4, .int .i64 i), (19, .func (.yield l) #[] #[]), (28, .slice (subBase A ((i).toNat) ((i + (if ((zs3.length : Nat) : Int) < 16 then ((zs3.length : Nat) : Int) else 16)).toNat) 1) (((i + (if ((zs3.length : Nat) : Int) < 16 then ((zs3.length : Nat) : Int) else 16)).toNat) - ((i).toNat)) (((i + (if ((zs3.length : Nat) : Int) < 16 then ((zs3.length : Nat) : Int) else 16)).toNat) - ((i).toNat)))] ((True) ∧ (True) ∧ (True) ∧ (-9223372036854775808 ≤ (i + (if ((zs3.length : Nat) : Int) < 16 then ((zs3.length : Nat) : Int) else 16)) ∧ (i + (if ((zs3.length : Nat) : Int) < 16 then ((zs3.length : Nat) : Int) else 16)) < 9223372036854775808) ∧ (True) ∧ (True) ∧ (-9223372036854775808 ≤ (i + (if ((zs3.length : Nat) : Int) < 16 then ((zs3.length : Nat) : Int) else 16)) ∧ (i + (if ((zs3.length : Nat) : Int) < 16 then ((zs3.length : Nat) : Int) else 16)) < 9223372036854775808) ∧ (0 ≤ i ∧ i ≤ (i + (if ((zs3.length : Nat) : Int) < 16 then ((zs3.length : Nat) : Int) else 16)) ∧ (i + (if ((zs3.length : Nat) : Int) < 16 then ((zs3.length : Nat) : Int) else 16)) ≤ (i + (if ((zs3.length : Nat) : Int) < 16 then ((zs3.length : Nat) : Int) else 16)) ∧ (i + (if ((zs3.length : Nat) : Int) < 16 then ((zs3.length : Nat) : Int) else 16)) ≤ ((c : Nat) : Int)) ∧ True) rfl (by kernel_rfl) ⟨trivial, trivial, trivial, (by omega), trivial, trivial, (by omega), (by omega), trivial⟩ ?_
    obtain ⟨zs11, hz12⟩ : ∃ z : List Int, z = (xs.drop ((i).toNat)).take (((i + (if ((zs3.length : Nat) : Int) < 16 then ((zs3.length : Nat) : Int) else 16)).toNat) - ((i).toNat)) := ⟨_, rfl⟩
    have hl13 : zs11.length = ((i + (if ((zs3.length : Nat) : Int) < 16 then ((zs3.length : Nat) : Int) else 16)).toNat) - ((i).toNat) := by rw [hz12, List.length_take, List.length_drop]; omega
    have hB15_t : Tells (vw A (nums .u8 xs)) (subBase A ((i).toNat) ((i + (if ((zs3.length : Nat) : Int) < 16 then ((zs3.length : Nat) : Int) else 16)).toNat) 1) (nums .u8 zs11) := by rw [hz12]; exact tells_sub_nums (tells_vw _ _) _ _ _ (by omega) (by omega)
    have hA16 : 0 < zs11.length → Option.isSome (subBase A ((i).toNat) ((i + (if ((zs3.length : Nat) : Int) < 16 then ((zs3.length : Nat) : Int) else 16)).toNat) 1) = true := fun h => part_some (hA1 (by omega)) _ _ _
    refine RunR.ev [0, 1, 2, 4, 19, 28] [(0, .func (.yield l) #[] #[]), (1, pt b1), (2, pt b2), (4, .int .i64 i), (19, .func (.yield l) #[] #[]), (28, .slice (subBase A ((i).toNat) ((i + (if ((zs3.length : Nat) : Int) < 16 then ((zs3.length : Nat) : Int) else 16)).toNat) 1) (((i + (if ((zs3.length : Nat) : Int) < 16 then ((zs3.length : Nat) : Int) else 16)).toNat) - ((i).toNat)) (((i + (if ((zs3.length : Nat) : Int) < 16 then ((zs3.length : Nat) : Int) else 16)).toNat) - ((i).toNat)))] ?_
    refine RunR.enveq [(0, .func (.yield l) #[] #[]), (1, pt b1), (2, pt b2), (4, .int .i64 i), (19, .func (.yield l) #[] #[]), (28, .slice (subBase A ((i).toNat) ((i + (if ((zs3.length : Nat) : Int) < 16 then ((zs3.length : Nat) : Int) else 16)).toNat) 1) zs11.length (((i + (if ((zs3.length : Nat) : Int) < 16 then ((zs3.length : Nat) : Int) else 16)).toNat) - ((i).toNat)))] (by rw [hl13]) ?_
    have hr17 : In .u8 zs11 := by rw [hz12]; exact (hx.drop _).take _
    have e1_ : (i).toNat = 16 * q := by omega
    have e2_ : (i + (if ((zs3.length : Nat) : Int) < 16 then ((zs3.length : Nat) : Int) else 16)).toNat = 16 * q + (chunk 16 xs q).length := by rw [chunk_len]; omega
    have e3_ : zs11 = (chunk 16 xs q) := by rw [hz12, e1_, e2_]; exact chunk_is _ _ _
    refine RunR.ev [0, 1, 2, 4, 19, 28] [(0, .func (.yield l) #[] #[]), (1, pt b1), (2, pt b2), (4, .int .i64 i), (19, .func (.yield l) #[] #[]), (28, .slice (subBase A ((i).toNat) ((i + (if ((zs3.length : Nat) : Int) < 16 then ((zs3.length : Nat) : Int) else 16)).toNat) 1) zs11.length (((i + (if ((zs3.length : Nat) : Int) < 16 then ((zs3.length : Nat) : Int) else 16)).toNat) - ((i).toNat)))] ?_
    refine RunR.enveq [(0, .func (.yield l) #[] #[]), (1, pt b1), (2, pt b2), (4, .int .i64 i), (19, .func (.yield l) #[] #[]), (28, .slice (subBase A (16 * q) (16 * q + (chunk 16 xs q).length) 1) ((chunk 16 xs q).length) ((chunk 16 xs q).length))] (by rw [e3_, e1_, e2_, Nat.add_sub_cancel_left]) ?_
    refine RunR.yield (d := some 29) (c := (.tmp 19)) (os_ := #[.tmp 28]) (ts := #[24]) l [.slice (subBase A (16 * q) (16 * q + (chunk 16 xs q).length) 1) ((chunk 16 xs q).length) ((chunk 16 xs q).length)] (by kernel_rfl) (by kernel_rfl) (by kernel_rfl) (by kernel_rfl) [S q] [B, vw (subBase A (16 * q) (16 * q + (chunk 16 xs q).length) 1) (nums .u8 (chunk 16 xs q))] [blk b1 24 [.slice A xs.length c], blk b2 3 [.int .i64 16], B, vw A (nums .u8 xs)] (hY q (by omega)) [0] (by kernel_rfl) (((Lend.nil _).tells 3 (vw A (nums .u8 xs)) (subBase A (16 * q) (16 * q + (chunk 16 xs q).length) 1) (nums .u8 (chunk 16 xs q)) (by kernel_rfl) ((by have h_ := hB15_t; rw [e3_, e1_, e2_] at h_; exact h_))).same 2 B (by kernel_rfl) hB) ?_
    rintro _ _ (⟨rfl, rfl⟩ | ⟨rfl, rfl⟩)
    · skip
      refine RunR.sl hU [] 1 12 [0, 1, 2, 4, 30] [(0, .func (.yield l) #[] #[]), (1, pt b1), (2, pt b2), (4, .int .i64 i), (30, .bool false)] 1 ?_
      refine RunR.nn ?_
      refine RunC.cond (b := false) (by kernel_rfl) (fun h => by cases h) (fun _ => ?_)
      refine RunC.skip ?_
      refine kblock_n ?_
      refine kseq_n ?_
      refine RunC.region ?_
      refine RunR.sl hU [] 1 1 [0, 1, 2, 4, 10] [(0, .func (.yield l) #[] #[]), (1, pt b1), (2, pt b2), (4, .int .i64 i), (10, .int .i64 i)] 1 ?_
      refine RunR.st (some 11) (.load 3 (.tmp 2)) (Step.load_blk hU 2 b2 (0) 3 [.int .i64 16] (.int .i64 16) (by kernel_rfl) (by kernel_rfl) (by kernel_rfl) (by kernel_rfl) ?_)
      refine RunR.sil hU [2] 2 4 [0, 1, 2, 4] [(0, .func (.yield l) #[] #[]), (1, pt b1), (2, pt b2), (4, .int .i64 (i + 16))] ((-9223372036854775808 ≤ (i + 16) ∧ (i + 16) < 9223372036854775808) ∧ (True) ∧ True) rfl (by kernel_rfl) ⟨(by omega), trivial, trivial⟩ ?_
      refine RunR.dn ?_
      refine kloop_n _ [0, 1, 2, 4] [0, 0, 0, 0, 0] [(0, .func (.yield l) #[] #[]), (1, pt b1), (2, pt b2), (4, .int .i64 (i + 16))] [S (q + 1), blk b1 24 [.slice A xs.length c], blk b2 3 [.int .i64 16], B, vw A (nums .u8 xs)] (by kernel_rfl) (by kernel_rfl) ?_ ⟨(i + 16), (q + 1), (by first | assumption | omega | (simp only [List.length_append, List.length_cons, List.length_nil, List.length_set, List.length_replicate, List.length_take, List.length_drop]; omega) | (simp only [fits] at *; omega) | (simp only [List.length_append, List.length_cons, List.length_nil, List.length_set, List.length_replicate, List.length_take, List.length_drop] at *; omega) | (simp; done) | decide), (by first | assumption | omega | (simp only [List.length_append, List.length_cons, List.length_nil, List.length_set, List.length_replicate, List.length_take, List.length_drop]; omega) | (simp only [fits] at *; omega) | (simp only [List.length_append, List.length_cons, List.length_nil, List.length_set, List.length_replicate, List.length_take, List.length_drop] at *; omega) | (simp; done) | decide), rfl, (by first | rfl | simp only [List.length_set]), (by first | rfl | simp only [List.length_set])⟩
      show ((xs.length + 16 - (i + 16)).toNat : Nat) < ((xs.length + 16 - i).toNat : Nat)
      omega
    · skip
      refine RunR.sl hU [] 1 12 [0, 1, 2, 4, 30] [(0, .func (.yield l) #[] #[]), (1, pt b1), (2, pt b2), (4, .int .i64 i), (30, .bool true)] 1 ?_
      refine RunR.nn ?_
      refine RunC.cond (b := true) (by kernel_rfl) (fun _ => ?_) (fun h => by cases h)
      refine RunC.ret ?_
      refine kblock_r ?_
      refine kseq_r ?_
      refine kloop_r ?_
      refine kblock_r ?_
      refine kret_r [] [0] [Sx] trivial (by kernel_rfl) (by simp [hSx]) (.inr rfl)
  · skip
    refine RunC.exit ?_
    refine kseq_e ?_
    refine kloop_e ?_
    refine kblock_e ?_
    refine kret_n [] [0] [S q] trivial (by kernel_rfl) (by simp [hS]) (.inl (by rw [show (q : Nat) = (xs.length + 15) / 16 by omega]))

theorem sl_ChunkN_it (A : Option Addr) (c : Nat) (xs : List Int) (n : Int) (bi : Nat) (bj : Nat) (hx : In .u8 xs) (hn : xs.length ≤ 1000000) (hlc : xs.length ≤ c) (h1 : 1 ≤ n) (h2 : n ≤ 1000000) :
    IterS Try.prog 75 [pt bi, pt bj] (chn n.toNat xs.length) (fun i_ => [.slice (subBase A (n.toNat * i_) (n.toNat * i_ + (chunk n.toNat xs i_).length) 1) ((chunk n.toNat xs i_).length) ((chunk n.toNat xs i_).length)]) (fun i_ => [vw (subBase A (n.toNat * i_) (n.toNat * i_ + (chunk n.toNat xs i_).length) 1) (nums .u8 (chunk n.toNat xs i_))]) [blk bi 24 [.slice A xs.length c], blk bj 3 [.int .i64 n]] [vw A (nums .u8 xs)] := by
  intro l B Sx S hB hSx hS hY
  refine CallsS.enter hU Try.f75 _ [] 31 Try.func75 rfl (by decide) rfl rfl (by kernel_rfl) fun w0 W => ?_
  refine RunC.only [0, 0, 0, 0, 0] [S 0, blk bi 24 [.slice A xs.length c], blk bj 3 [.int .i64 n], B, vw A (nums .u8 xs)] (by kernel_rfl) ?_
  refine RunC.know (p := 0 < xs.length → Option.isSome A = true) (fun _ _ w hs => vw_some hs 4 rfl (by first | (simp [nums_length]; done) | exact dosV_len _ | exact bls_len _ | exact chV_len _)) (fun hA1 => ?_)
  refine RunC.sr ?_
  refine RunR.sl hU [] 1 1 [0, 1, 2, 4] [(0, .func (.yield l) #[] #[]), (1, pt bi), (2, pt bj), (4, .int .i64 0)] 1 ?_
  refine RunR.nn ?_
  refine RunC.block ?_
  refine RunC.env [0, 1, 2, 4] [(0, .func (.yield l) #[] #[]), (1, pt bi), (2, pt bj), (4, .int .i64 0)] (by kernel_rfl) ?_
  refine RunC.only [0, 0, 0, 0, 0] [S 0, blk bi 24 [.slice A xs.length c], blk bj 3 [.int .i64 n], B, vw A (nums .u8 xs)] (by kernel_rfl) ?_
  refine RunC.loop (σ := Nat) (fun n_ t_ D_ => ∃ (i : Int) (p : Nat) (q : Nat), (i = (p : Int)) ∧ (p = n.toNat * q) ∧ (p ≤ xs.length + n.toNat) ∧ (q ≤ chn n.toNat xs.length) ∧ n_ = ((xs.length + 2 * n - i).toNat : Nat) ∧ t_ = [(0, .func (.yield l) #[] #[]), (1, pt bi), (2, pt bj), (4, .int .i64 i)] ∧ D_ = [S q, blk bi 24 [.slice A xs.length c], blk bj 3 [.int .i64 n], B, vw A (nums .u8 xs)]) id _ ⟨0, 0, 0, (by first | assumption | omega | (simp only [List.length_append, List.length_cons, List.length_nil, List.length_set, List.length_replicate, List.length_take, List.length_drop]; omega) | (simp only [fits] at *; omega) | (simp only [List.length_append, List.length_cons, List.length_nil, List.length_set, List.length_replicate, List.length_take, List.length_drop] at *; omega) | (simp; done) | decide), (by rw [Nat.mul_zero]), (by first | assumption | omega | (simp only [List.length_append, List.length_cons, List.length_nil, List.length_set, List.length_replicate, List.length_take, List.length_drop]; omega) | (simp only [fits] at *; omega) | (simp only [List.length_append, List.length_cons, List.length_nil, List.length_set, List.length_replicate, List.length_take, List.length_drop] at *; omega) | (simp; done) | decide), (by first | assumption | omega | (simp only [List.length_append, List.length_cons, List.length_nil, List.length_set, List.length_replicate, List.length_take, List.length_drop]; omega) | (simp only [fits] at *; omega) | (simp only [List.length_append, List.length_cons, List.length_nil, List.length_set, List.length_replicate, List.length_take, List.length_drop] at *; omega) | (simp; done) | decide), rfl, rfl, rfl⟩ ?_
  rintro n_ _ _ ⟨i, p, q, hi, hp, hpl, hq, rfl, rfl, rfl⟩
  refine RunC.seq ?_
  refine RunC.sr ?_
  refine RunR.sl hU [] 1 1 [0, 1, 2, 4, 6] [(0, .func (.yield l) #[] #[]), (1, pt bi), (2, pt bj), (4, .int .i64 i), (6, .int .i64 i)] 1 ?_
  refine RunR.st (some 7) (.load 24 (.tmp 1)) (Step.load_blk hU 1 bi (0) 24 [.slice A xs.length c] (.slice A xs.length c) (by kernel_rfl) (by kernel_rfl) (by kernel_rfl) (by kernel_rfl) ?_)
  refine RunR.sl hU [] 2 4 [0, 1, 2, 4, 9] [(0, .func (.yield l) #[] #[]), (1, pt bi), (2, pt bj), (4, .int .i64 i), (9, .bool (decide (i < ((xs.length : Nat) : Int))))] 2 ?_
  refine RunR.nn ?_
  refine RunC.condp (i < ((xs.length : Nat) : Int)) (by kernel_rfl) (fun h2 => ?_) (fun h2 => ?_)
  · skip
    refine RunC.ks ?_
    refine RunC.seq ?_
    refine RunC.block ?_
    refine RunC.seq ?_
    refine RunC.regionU hU 7 [blk bj 3 [.int .i64 n], blk bi 24 [.slice A xs.length c]] [2, 1] [5, 6] (bm 7 0) (by kernel_rfl) (by kernel_rfl) (by kernel_rfl) ?_
    refine RunU.rd 0 (bm 7 1) 13 (.load 3 (.tmp 2)) (.int .i64 n) [2, 1] (Reads.load_blk hU 0 bj (0) 3 [.int .i64 n] (.int .i64 n) (by kernel_rfl) (by kernel_rfl) (by kernel_rfl)) ?_
    refine RunU.rd 1 (bm 7 3) 14 (.load 24 (.tmp 1)) (.slice A xs.length c) [2, 1] (Reads.load_blk hU 1 bi (0) 24 [.slice A xs.length c] (.slice A xs.length c) (by kernel_rfl) (by kernel_rfl) (by kernel_rfl)) ?_
    refine RunU.sl hU 2 (bm 7 7) 15 (.int .i64 i) ?_
    refine RunU.sil hU false 3 (bm 7 15) 16 (.slice (subBase A ((i).toNat) c 1) (xs.length - ((i).toNat)) (c - ((i).toNat))) (0 ≤ i ∧ i ≤ ((xs.length : Nat) : Int)) (by kernel_rfl) (by omega) (by kernel_rfl) (by kernel_rfl) (fun _ _ _ h => h) ?_
    obtain ⟨zs3, hz4⟩ : ∃ z : List Int, z = (xs.drop ((i).toNat)).take (xs.length - ((i).toNat)) := ⟨_, rfl⟩
    have hl5 : zs3.length = xs.length - ((i).toNat) := by rw [hz4, List.length_take, List.length_drop]; omega
    have hB7_t : Tells (vw A (nums .u8 xs)) (subBase A ((i).toNat) c 1) (nums .u8 zs3) := by rw [hz4]; exact tells_sub_nums (tells_vw _ _) _ _ _ (by omega) (by omega)
    have hA8 : 0 < zs3.length → Option.isSome (subBase A ((i).toNat) c 1) = true := fun h => part_some (hA1 (by omega)) _ _ _
    refine RunU.ev [0, 1, 2, 4, 9, 13, 14, 15, 16] [(0, .func (.yield l) #[] #[]), (1, pt bi), (2, pt bj), (4, .int .i64 i), (9, .bool (decide (i < ((xs.length : Nat) : Int)))), (13, .int .i64 n), (14, .slice A xs.length c), (15, .int .i64 i), (16, .slice (subBase A ((i).toNat) c 1) (xs.length - ((i).toNat)) (c - ((i).toNat)))] ?_
    refine RunU.enveq [(0, .func (.yield l) #[] #[]), (1, pt bi), (2, pt bj), (4, .int .i64 i), (9, .bool (decide (i < ((xs.length : Nat) : Int)))), (13, .int .i64 n), (14, .slice A xs.length c), (15, .int .i64 i), (16, .slice (subBase A ((i).toNat) c 1) zs3.length (c - ((i).toNat)))] (by rw [hl5]) ?_
    have hr9 : In .u8 zs3 := by rw [hz4]; exact (hx.drop _).take _
    refine RunU.sl hU 4 (bm 7 31) 17 (.int .i64 ((zs3.length : Nat) : Int)) ?_
    have hm10 : ((if ((zs3.length : Nat) : Int) < n then ((zs3.length : Nat) : Int) else n) = n ∨ (if ((zs3.length : Nat) : Int) < n then ((zs3.length : Nat) : Int) else n) = ((zs3.length : Nat) : Int)) ∧ (if ((zs3.length : Nat) : Int) < n then ((zs3.length : Nat) : Int) else n) ≤ n ∧ (if ((zs3.length : Nat) : Int) < n then ((zs3.length : Nat) : Int) else n) ≤ ((zs3.length : Nat) : Int) := by split <;> omega
    refine RunU.sl hU 5 (bm 7 63) 18 (.int .i64 (if ((zs3.length : Nat) : Int) < n then ((zs3.length : Nat) : Int) else n)) ?_
    refine RunU.sl hU 6 (bm 7 127) 5 (.int .i64 (if ((zs3.length : Nat) : Int) < n then ((zs3.length : Nat) : Int) else n)) ?_
    refine RunU.ev [0, 1, 2, 4, 5] [(0, .func (.yield l) #[] #[]), (1, pt bi), (2, pt bj), (4, .int .i64 i), (5, .int .i64 (if ((zs3.length : Nat) : Int) < n then ((zs3.length : Nat) : Int) else n))] ?_
    refine RunU.dn ?_
    refine kseq_n ?_
    refine RunC.sr ?_
    refine RunR.sl hU [] 1 1 [0, 1, 2, 4, 5, 19] [(0, .func (.yield l) #[] #[]), (1, pt bi), (2, pt bj), (4, .int .i64 i), (5, .int .i64 (if ((zs3.length : Nat) : Int) < n then ((zs3.length : Nat) : Int) else n)), (19, .func (.yield l) #[] #[])] 1 ?_
    refine RunR.st (some 20) (.load 24 (.tmp 1)) (Step.load_blk hU 1 bi (0) 24 [.slice A xs.length c] (.slice A xs.length c) (by kernel_rfl) (by kernel_rfl) (by kernel_rfl) (by kernel_rfl) ?_)
    refine RunR.sil hU [5, 8] 8 10 [0, 1, 2, 4, 19, 28] [(0, .func (.yield l) #[] #[]), (1, pt bi), (2, pt bj), (4, .int .i64 i), (19, .func (.yield l) #[] #[]), (28, .slice (subBase A ((i).toNat) ((i + (if ((zs3.length : Nat) : Int) < n then ((zs3.length : Nat) : Int) else n)).toNat) 1) (((i + (if ((zs3.length : Nat) : Int) < n then ((zs3.length : Nat) : Int) else n)).toNat) - ((i).toNat)) (((i + (if ((zs3.length : Nat) : Int) < n then ((zs3.length : Nat) : Int) else n)).toNat) - ((i).toNat)))] ((True) ∧ (True) ∧ (True) ∧ (-9223372036854775808 ≤ (i + (if ((zs3.length : Nat) : Int) < n then ((zs3.length : Nat) : Int) else n)) ∧ (i + (if ((zs3.length : Nat) : Int) < n then ((zs3.length : Nat) : Int) else n)) < 9223372036854775808) ∧ (True) ∧ (True) ∧ (-9223372036854775808 ≤ (i + (if ((zs3.length : Nat) : Int) < n then ((zs3.length : Nat) : Int) else n)) ∧ (i + (if ((zs3.length : Nat) : Int) < n then ((zs3.length : Nat) : Int) else n)) < 9223372036854775808) ∧ (0 ≤ i ∧ i ≤ (i + (if ((zs3.length : Nat) : Int) < n then ((zs3.length : Nat) : Int) else n)) ∧ (i + (if ((zs3.length : Nat) : Int) < n then ((zs3.length : Nat) : Int) else n)) ≤ (i + (if ((zs3.length : Nat) : Int) < n then ((zs3.length : Nat) : Int) else n)) ∧ (i + (if ((zs3.length : Nat) : Int) < n then ((zs3.length : Nat) : Int) else n)) ≤ ((c : Nat) : Int)) ∧ True) rfl (by kernel_rfl) ⟨trivial, trivial, trivial, (by omega), trivial, trivial, (by omega), (by omega), trivial⟩ ?_
    obtain ⟨zs11, hz12⟩ : ∃ z : List Int, z = (xs.drop ((i).toNat)).take (((i + (if ((zs3.length : Nat) : Int) < n then ((zs3.length : Nat) : Int) else n)).toNat) - ((i).toNat)) := ⟨_, rfl⟩
    have hl13 : zs11.length = ((i + (if ((zs3.length : Nat) : Int) < n then ((zs3.length : Nat) : Int) else n)).toNat) - ((i).toNat) := by rw [hz12, List.length_take, List.length_drop]; omega
    have hB15_t : Tells (vw A (nums .u8 xs)) (subBase A ((i).toNat) ((i + (if ((zs3.length : Nat) : Int) < n then ((zs3.length : Nat) : Int) else n)).toNat) 1) (nums .u8 zs11) := by rw [hz12]; exact tells_sub_nums (tells_vw _ _) _ _ _ (by omega) (by omega)
    have hA16 : 0 < zs11.length → Option.isSome (subBase A ((i).toNat) ((i + (if ((zs3.length : Nat) : Int) < n then ((zs3.length : Nat) : Int) else n)).toNat) 1) = true := fun h => part_some (hA1 (by omega)) _ _ _
    refine RunR.ev [0, 1, 2, 4, 19, 28] [(0, .func (.yield l) #[] #[]), (1, pt bi), (2, pt bj), (4, .int .i64 i), (19, .func (.yield l) #[] #[]), (28, .slice (subBase A ((i).toNat) ((i + (if ((zs3.length : Nat) : Int) < n then ((zs3.length : Nat) : Int) else n)).toNat) 1) (((i + (if ((zs3.length : Nat) : Int) < n then ((zs3.length : Nat) : Int) else n)).toNat) - ((i).toNat)) (((i + (if ((zs3.length : Nat) : Int) < n then ((zs3.length : Nat) : Int) else n)).toNat) - ((i).toNat)))] ?_
    refine RunR.enveq [(0, .func (.yield l) #[] #[]), (1, pt bi), (2, pt bj), (4, .int .i64 i), (19, .func (.yield l) #[] #[]), (28, .slice (subBase A ((i).toNat) ((i + (if ((zs3.length : Nat) : Int) < n then ((zs3.length : Nat) : Int) else n)).toNat) 1) zs11.length (((i + (if ((zs3.length : Nat) : Int) < n then ((zs3.length : Nat) : Int) else n)).toNat) - ((i).toNat)))] (by rw [hl13]) ?_
    have hr17 : In .u8 zs11 := by rw [hz12]; exact (hx.drop _).take _
    have e1_ : (i).toNat = n.toNat * q := by rw [← hp]; omega
    have e2_ : (i + (if ((zs3.length : Nat) : Int) < n then ((zs3.length : Nat) : Int) else n)).toNat = n.toNat * q + (chunk n.toNat xs q).length := by rw [chunk_len, ← hp]; omega
    have e3_ : zs11 = (chunk n.toNat xs q) := by rw [hz12, e1_, e2_]; exact chunk_is _ _ _
    refine RunR.ev [0, 1, 2, 4, 19, 28] [(0, .func (.yield l) #[] #[]), (1, pt bi), (2, pt bj), (4, .int .i64 i), (19, .func (.yield l) #[] #[]), (28, .slice (subBase A ((i).toNat) ((i + (if ((zs3.length : Nat) : Int) < n then ((zs3.length : Nat) : Int) else n)).toNat) 1) zs11.length (((i + (if ((zs3.length : Nat) : Int) < n then ((zs3.length : Nat) : Int) else n)).toNat) - ((i).toNat)))] ?_
    refine RunR.enveq [(0, .func (.yield l) #[] #[]), (1, pt bi), (2, pt bj), (4, .int .i64 i), (19, .func (.yield l) #[] #[]), (28, .slice (subBase A (n.toNat * q) (n.toNat * q + (chunk n.toNat xs q).length) 1) ((chunk n.toNat xs q).length) ((chunk n.toNat xs q).length))] (by rw [e3_, e1_, e2_, Nat.add_sub_cancel_left]) ?_
    refine RunR.yield (d := some 29) (c := (.tmp 19)) (os_ := #[.tmp 28]) (ts := #[24]) l [.slice (subBase A (n.toNat * q) (n.toNat * q + (chunk n.toNat xs q).length) 1) ((chunk n.toNat xs q).length) ((chunk n.toNat xs q).length)] (by kernel_rfl) (by kernel_rfl) (by kernel_rfl) (by kernel_rfl) [S q] [B, vw (subBase A (n.toNat * q) (n.toNat * q + (chunk n.toNat xs q).length) 1) (nums .u8 (chunk n.toNat xs q))] [blk bi 24 [.slice A xs.length c], blk bj 3 [.int .i64 n], B, vw A (nums .u8 xs)] (hY q (chn_lt (by omega) (by rw [← hp]; omega))) [0] (by kernel_rfl) (((Lend.nil _).tells 3 (vw A (nums .u8 xs)) (subBase A (n.toNat * q) (n.toNat * q + (chunk n.toNat xs q).length) 1) (nums .u8 (chunk n.toNat xs q)) (by kernel_rfl) ((by have h_ := hB15_t; rw [e3_, e1_, e2_] at h_; exact h_))).same 2 B (by kernel_rfl) hB) ?_
    rintro _ _ (⟨rfl, rfl⟩ | ⟨rfl, rfl⟩)
    · skip
      refine RunR.sl hU [] 1 12 [0, 1, 2, 4, 30] [(0, .func (.yield l) #[] #[]), (1, pt bi), (2, pt bj), (4, .int .i64 i), (30, .bool false)] 1 ?_
      refine RunR.nn ?_
      refine RunC.cond (b := false) (by kernel_rfl) (fun h => by cases h) (fun _ => ?_)
      refine RunC.skip ?_
      refine kblock_n ?_
      refine kseq_n ?_
      refine RunC.region ?_
      refine RunR.sl hU [] 1 1 [0, 1, 2, 4, 10] [(0, .func (.yield l) #[] #[]), (1, pt bi), (2, pt bj), (4, .int .i64 i), (10, .int .i64 i)] 1 ?_
      refine RunR.st (some 11) (.load 3 (.tmp 2)) (Step.load_blk hU 2 bj (0) 3 [.int .i64 n] (.int .i64 n) (by kernel_rfl) (by kernel_rfl) (by kernel_rfl) (by kernel_rfl) ?_)
      refine RunR.sil hU [2] 2 4 [0, 1, 2, 4] [(0, .func (.yield l) #[] #[]), (1, pt bi), (2, pt bj), (4, .int .i64 (i + n))] ((-9223372036854775808 ≤ (i + n) ∧ (i + n) < 9223372036854775808) ∧ (True) ∧ True) rfl (by kernel_rfl) ⟨(by omega), trivial, trivial⟩ ?_
      refine RunR.dn ?_
      refine kloop_n _ [0, 1, 2, 4] [0, 0, 0, 0, 0] [(0, .func (.yield l) #[] #[]), (1, pt bi), (2, pt bj), (4, .int .i64 (i + n))] [S (q + 1), blk bi 24 [.slice A xs.length c], blk bj 3 [.int .i64 n], B, vw A (nums .u8 xs)] (by kernel_rfl) (by kernel_rfl) ?_ ⟨(i + n), (p + n.toNat), (q + 1), (by first | assumption | omega | (simp only [List.length_append, List.length_cons, List.length_nil, List.length_set, List.length_replicate, List.length_take, List.length_drop]; omega) | (simp only [fits] at *; omega) | (simp only [List.length_append, List.length_cons, List.length_nil, List.length_set, List.length_replicate, List.length_take, List.length_drop] at *; omega) | (simp; done) | decide), (by rw [hp, Nat.mul_succ]), (by first | assumption | omega | (simp only [List.length_append, List.length_cons, List.length_nil, List.length_set, List.length_replicate, List.length_take, List.length_drop]; omega) | (simp only [fits] at *; omega) | (simp only [List.length_append, List.length_cons, List.length_nil, List.length_set, List.length_replicate, List.length_take, List.length_drop] at *; omega) | (simp; done) | decide), (by exact chn_lt (by omega) (by rw [← hp]; omega)), rfl, (by first | rfl | simp only [List.length_set]), (by first | rfl | simp only [List.length_set])⟩
      show ((xs.length + 2 * n - (i + n)).toNat : Nat) < ((xs.length + 2 * n - i).toNat : Nat)
      omega
    · skip
      refine RunR.sl hU [] 1 12 [0, 1, 2, 4, 30] [(0, .func (.yield l) #[] #[]), (1, pt bi), (2, pt bj), (4, .int .i64 i), (30, .bool true)] 1 ?_
      refine RunR.nn ?_
      refine RunC.cond (b := true) (by kernel_rfl) (fun _ => ?_) (fun h => by cases h)
      refine RunC.ret ?_
      refine kblock_r ?_
      refine kseq_r ?_
      refine kloop_r ?_
      refine kblock_r ?_
      refine kret_r [] [0] [Sx] trivial (by kernel_rfl) (by simp [hSx]) (.inr rfl)
  · skip
    refine RunC.exit ?_
    refine kseq_e ?_
    refine kloop_e ?_
    refine kblock_e ?_
    refine kret_n [] [0] [S q] trivial (by kernel_rfl) (by simp [hS]) (.inl (by rw [show (q : Nat) = chn n.toNat xs.length by exact chn_end (by omega) hq (by rw [← hp]; omega)]))
end Go.Proofs.Ytkehpipialmneaa.X6
